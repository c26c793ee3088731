/- A part of the proof of TopForms, made short by a program. -/
import Derived.Test.YtcoialpohgfikaaGreatDoorM2
import Derived.Test.YtcoialpohgfikaaGreatDoorM3
import Derived.LoopIn
import Derived.LoopNIn
import Derived.OwnWalkIn
import Derived.RangeFuncBound
import Derived.RangeFuncCalls
import Derived.RangeFuncLeaves
import Derived.RangeFuncNested
import Derived.TacticsInMore
section
namespace Go.Proofs.YtcoialpohgfikaaGreatDoor.C
open Go.RowKit Go.Proofs.YtcoialpohgfikaaGreatDoorW.PrintWords Go.Proofs.YtcoialpohgfikaaGreatDoorW.PrintLast Go.Proofs.YtcoialpohgfikaaGreatDoorW.PrintMore
theorem bq {p : Prop} (h : p := by repeat (first | (with_reducible first | exact HB.out | apply below_alloc | apply pw_below_drewN | apply below_drew1 | refine below_set ?_ (Aside0.out (by assumption))) | exact HB.out)) : p := h
theorem rq {p : Prop} (h : p := by first | rfl | (simp; done) | (simp [*]; done)) : p := h
theorem eq' {p : Prop} (h : p := by first | rfl | (simp [errW_none, errW_some] <;> rfl) | (simp [*, errW_none, errW_some] <;> rfl)) : p := h
theorem oq {p : Prop} [Decidable p] (h : decide p = true := by first | (with_reducible assumption) | assumption) : p := of_decide_eq_true h
theorem nf : ¬ (false = true) := by decide
theorem dq {p : Prop} (h : p := by first | exact ⟨rfl, _, World.drewN_drewN _ _ _⟩ | exact ⟨rfl, _, Eq.trans (World.drewN_drewN _ _ _) (congrArg (World.drewN _) (Nat.add_assoc _ _ _))⟩) : p := h
theorem am {p : Prop} (h : p) : Aside0 p := ⟨h⟩
section
variable {w w1 w2 w' W : World} {g g' : Nat} {o : Obj}
theorem bd (x : Aside0 (w.heap[g]? = some o)) (h : Below w.heap.size w w' := by repeat (first | (with_reducible first | exact Below.refl _ _ | apply below_alloc | apply pw_below_drewN | apply below_drew1) | exact Below.refl _ _)) : w'.heap[g]? = some o := blk_below x.out h
theorem bk (x : Aside0 (w.heap[g]? = some o)) (hb : Below w1.heap.size w1 w2) (h : Below w.heap.size w w1 := by repeat (first | (with_reducible first | exact Below.refl _ _ | apply below_alloc | apply pw_below_drewN | apply below_drew1) | exact Below.refl _ _)) : Aside0 (w2.heap[g]? = some o) := ⟨blk_below (blk_below x.out h) hb⟩
theorem bs (hb : Below W.heap.size W w2) (h : Below w.heap.size w W := by repeat (first | (with_reducible first | exact HB.out | apply below_alloc | apply pw_below_drewN | apply below_drew1 | refine below_set ?_ (Aside0.out (by assumption))) | exact HB.out)) : Aside0 (Below w.heap.size w w2) := ⟨below_step h hb⟩
theorem sz (hg : g = W.heap.size) (h : Below w.heap.size w W := by repeat (first | (with_reducible first | exact HB.out | apply below_alloc | apply pw_below_drewN | apply below_drew1 | refine below_set ?_ (Aside0.out (by assumption))) | exact HB.out)) : Aside0 (w.heap.size ≤ g) := ⟨hg ▸ below_size h⟩
theorem nl (hg : g' = W.heap.size) (x : Aside0 (w.heap[g]? = some o)) (h : Below w.heap.size w W := by repeat (first | (with_reducible first | exact Below.refl _ _ | apply below_alloc | apply pw_below_drewN | apply below_drew1) | exact Below.refl _ _)) : Aside0 (g ≠ g') := ⟨hg ▸ Nat.ne_of_lt (blk_lt (blk_below x.out h))⟩
theorem ng (hg : g' = W.heap.size) (x : Aside0 (w.heap[g]? = some o)) (h : Below w.heap.size w W := by repeat (first | (with_reducible first | exact Below.refl _ _ | apply below_alloc | apply pw_below_drewN | apply below_drew1) | exact Below.refl _ _)) : Aside0 (g' ≠ g) := ⟨hg ▸ Nat.ne_of_gt (blk_lt (blk_below x.out h))⟩
theorem bf (x : Aside0 (w.heap[g]? = some o)) (h : w.heap[g]? = some o → w'.heap[g]? = some o := by intro hx_; repeat (first | (with_reducible first | exact hx_ | refine blk_drewN ?_ _ | refine blk_drew ?_ | refine blk_alloc ?_ _) | refine blk_far ?_ (Aside0.out (by assumption)) _ | exact hx_)) : w'.heap[g]? = some o := h x.out
theorem bp {o' : Obj} (x : Aside0 (w.heap[g]? = some o)) (h : w.heap[g]? = some o → w'.heap[g]? = some o' := by (intro hx_; repeat (first | (with_reducible first | exact hx_ | refine blk_drewN ?_ _ | refine blk_drew ?_ | refine blk_alloc ?_ _) | apply blk_put | refine blk_far ?_ (Aside0.out (by assumption)) _ | exact hx_)); all_goals rfl) : w'.heap[g]? = some o' := h x.out
theorem cw {a : Addr} {v : Value} (hc : w.cell? a = some v) (hb : Below w.heap.size w W := by exact HB.out) : W.cell? a = some v := pw_cell_below hb hc
theorem cq {α : Type} {K : Kd α} {A : Option Addr} {n : Nat} {xs : List α} (x : Aside0 (K.C w A n xs)) (h : Below w.heap.size w w' := by repeat (first | (with_reducible first | exact HB.out | apply below_alloc | apply pw_below_drewN | apply below_drew1 | refine below_set ?_ (Aside0.out (by assumption))) | exact HB.out)) : K.C w' A n xs := Kd.C_below x.out h
theorem cd {α : Type} {K : Kd α} {A : Option Addr} {n : Nat} {xs : List α} (x : Aside0 (K.C w A n xs)) (h : Below w.heap.size w w' := by repeat (first | (with_reducible first | exact Below.refl _ _ | apply below_alloc | apply pw_below_drewN | apply below_drew1) | exact Below.refl _ _)) : K.C w' A n xs := Kd.C_below x.out h
theorem rR {α : Type} {K : Kd α} {e base : Nat} {ok : Nat → Prop} {v : Value} {xs : List α} (x : Aside0 (Kd.R K e w base ok v xs)) (h : Below w.heap.size w w' := by repeat (first | (with_reducible first | exact Below.refl _ _ | apply below_alloc | apply pw_below_drewN | apply below_drew1) | exact Below.refl _ _)) : Kd.R K e w' base ok v xs := Kd.R_below x.out h
theorem rV {α : Type} {K : Kd α} {e base : Nat} {ok : Nat → Prop} {v : Value} {xs : List α} (x : Aside0 (Kd.V K e w base ok v xs)) (h : Below w.heap.size w w' := by repeat (first | (with_reducible first | exact Below.refl _ _ | apply below_alloc | apply pw_below_drewN | apply below_drew1) | exact Below.refl _ _)) : Kd.V K e w' base ok v xs := Kd.V_below x.out h
theorem rW {α : Type} {K : Kd α} {e base : Nat} {ok : Nat → Prop} {v : Value} {xs : List α} (x : Kd.V K e w base ok v xs) (h : Below w.heap.size w w' := by repeat (first | (with_reducible first | exact Below.refl _ _ | apply below_alloc | apply pw_below_drewN | apply below_drew1) | exact Below.refl _ _)) : Kd.V K e w' base ok v xs := Kd.V_below x h
end
section
variable {w : World} {g : Nat} {t : TypeId} {a b c d e f : Value}
theorem bc2 (x : Aside0 (w.heap[g]? = some (.cells #[a, b] t (0, 0)))) : w.cell? ⟨g, 0, none⟩ = some a ∧ w.cell? ⟨g, 1, none⟩ = some b ∧ w.frozen? ⟨g, 0, none⟩ = false ∧ w.frozen? ⟨g, 1, none⟩ = false := ⟨blk_cell x.out 0, blk_cell x.out 1, blk_frozen x.out 0, blk_frozen x.out 1⟩
theorem bc3 (x : Aside0 (w.heap[g]? = some (.cells #[a, b, c] t (0, 0)))) : w.cell? ⟨g, 0, none⟩ = some a ∧ w.cell? ⟨g, 1, none⟩ = some b ∧ w.cell? ⟨g, 2, none⟩ = some c ∧ w.frozen? ⟨g, 0, none⟩ = false ∧ w.frozen? ⟨g, 1, none⟩ = false ∧ w.frozen? ⟨g, 2, none⟩ = false := ⟨blk_cell x.out 0, blk_cell x.out 1, blk_cell x.out 2, blk_frozen x.out 0, blk_frozen x.out 1, blk_frozen x.out 2⟩
theorem bc4 (x : Aside0 (w.heap[g]? = some (.cells #[a, b, c, d] t (0, 0)))) : w.cell? ⟨g, 0, none⟩ = some a ∧ w.cell? ⟨g, 1, none⟩ = some b ∧ w.cell? ⟨g, 2, none⟩ = some c ∧ w.cell? ⟨g, 3, none⟩ = some d ∧ w.frozen? ⟨g, 0, none⟩ = false ∧ w.frozen? ⟨g, 1, none⟩ = false ∧ w.frozen? ⟨g, 2, none⟩ = false ∧ w.frozen? ⟨g, 3, none⟩ = false :=
  ⟨blk_cell x.out 0, blk_cell x.out 1, blk_cell x.out 2, blk_cell x.out 3, blk_frozen x.out 0, blk_frozen x.out 1, blk_frozen x.out 2, blk_frozen x.out 3⟩
theorem bc5 (x : Aside0 (w.heap[g]? = some (.cells #[a, b, c, d, e] t (0, 0)))) : w.cell? ⟨g, 0, none⟩ = some a ∧ w.cell? ⟨g, 1, none⟩ = some b ∧ w.cell? ⟨g, 2, none⟩ = some c ∧ w.cell? ⟨g, 3, none⟩ = some d ∧ w.cell? ⟨g, 4, none⟩ = some e ∧ w.frozen? ⟨g, 0, none⟩ = false ∧ w.frozen? ⟨g, 1, none⟩ = false ∧ w.frozen? ⟨g, 2, none⟩ = false ∧ w.frozen? ⟨g, 3, none⟩ = false ∧ w.frozen? ⟨g, 4, none⟩ = false :=
  ⟨blk_cell x.out 0, blk_cell x.out 1, blk_cell x.out 2, blk_cell x.out 3, blk_cell x.out 4, blk_frozen x.out 0, blk_frozen x.out 1, blk_frozen x.out 2, blk_frozen x.out 3, blk_frozen x.out 4⟩
theorem bc6 (x : Aside0 (w.heap[g]? = some (.cells #[a, b, c, d, e, f] t (0, 0)))) : w.cell? ⟨g, 0, none⟩ = some a ∧ w.cell? ⟨g, 1, none⟩ = some b ∧ w.cell? ⟨g, 2, none⟩ = some c ∧ w.cell? ⟨g, 3, none⟩ = some d ∧ w.cell? ⟨g, 4, none⟩ = some e ∧ w.cell? ⟨g, 5, none⟩ = some f ∧ w.frozen? ⟨g, 0, none⟩ = false ∧ w.frozen? ⟨g, 1, none⟩ = false ∧ w.frozen? ⟨g, 2, none⟩ = false ∧ w.frozen? ⟨g, 3, none⟩ = false ∧ w.frozen? ⟨g, 4, none⟩ = false ∧ w.frozen? ⟨g, 5, none⟩ = false :=
  ⟨blk_cell x.out 0, blk_cell x.out 1, blk_cell x.out 2, blk_cell x.out 3, blk_cell x.out 4, blk_cell x.out 5, blk_frozen x.out 0, blk_frozen x.out 1, blk_frozen x.out 2, blk_frozen x.out 3, blk_frozen x.out 4, blk_frozen x.out 5⟩
end
section
variable {P : Program} {ops : Array Oper} {o : Oper} {rest : List Oper} {a : Act} {Q : Exit → Act → World → Prop}
theorem bx {W : World} (N : Tmp) (cs : Array Value) (t : TypeId)
    (h : ∀ g, g = W.heap.size → ∀ w1, w1.heap[g]? = some (.cells cs t (0, 0)) → Below W.heap.size W w1 → wpList P ops Q rest (a.put o.dst (.pointer (some ⟨g, 0, none⟩))) w1)
    (hd : o.dst = some N := by rfl) (hgd : o.guard = none := by rfl)
    (hrun : (execOp a.eval o).run P W = .ok (.value (.pointer (some ⟨W.heap.size, 0, none⟩))) (W.alloc (.cells cs t (0, 0))) := by first | (go_simp; done) | (go_simp; rfl)) : wpList P ops Q (o :: rest) a W :=
  box_event hgd hd hrun h
theorem gL {w : World} (N : Option Tmp) {f : FuncId} {fn : Func} {xs : Array Operand} {ts : Array TypeId} (hf : P.funcs[f]? = some fn) (args : Array Value)
    (h : Calls P f args w fun e w' => ∃ v, e = .returned v ∧ wpList P ops Q rest (a.put N v) w')
    (hd : o.dst = N := by rfl) (hg : o.guard = none := by rfl) (hname : (fn.name == "runtime.NumGoroutine") = false := by kernel_rfl) (hb : fn.body.isSome = true := by rfl)
    (hop : o.op = .call { callee := .value (.func f), args := xs, argTypes := ts } := by rfl)
    (hargs : xs.map a.eval = args := by (try simp only [List.map_toArray, List.map_cons, List.map_nil]); first | done | rfl | (simp only [List.length_drop, List.length_take]; rfl)) : wpList P ops Q (o :: rest) a w :=
  goesL_ N hd hg hf hname hb args hop hargs h
end
def tf (n k : Nat) : Array Bool := (List.replicate k true ++ List.replicate (n - k) false).toArray
section
variable {P : Program} {ops : Array Oper} {Q : Exit → Act → World → Prop} {md : Region.Mode} {S : World → Prop} {ds : List Nat}
theorem pu (i N : Nat) {oi : Oper} {v : Value} {fuel : Nat} {l : Array Bool} {a : Act} {w : World} (l' : Array Bool) {a' : Act}
    (h : wpAnyLast P md ops Q S ds fuel l' a' w)
    (hi : ops[i]? = some oi := by rfl) (hN : oi.dst = some N := by rfl) (hc : anyB md ops l l' i = true := by exact any_of HT_.out (by kernel_rfl))
    (hQ : ∀ c a w, Q (.panic c) (a.put oi.dst v) w → Q (.panic c) a w := by exact fun _ _ _ h => h)
    (hy : Yields P ops oi v a := by (refine Or.inl ⟨by rfl, ?_⟩; intro w'; go_simp; with_reducible rfl)) (ha : a.put (some N) v = a' := by (simp only [Act.put, List.setIfInBounds_toArray, List.set_cons_zero, List.set_cons_succ, i64_w, i32_w]; rfl)) : wpAnyLast P md ops Q S ds (fuel + 1) l a w :=
  pure_ l' hi hN hc hQ hy ha h
theorem pv (i N : Nat) {oi : Oper} {fuel : Nat} {l : Array Bool} {a : Act} {w : World} (l' : Array Bool) {a' : Act}
    (h : wpAnyLast P md ops Q S ds fuel l' a' w)
    (hi : ops[i]? = some oi := by rfl) (hN : oi.dst = some N := by rfl) (hc : anyB md ops l l' i = true := by exact any_of HT_.out (by kernel_rfl))
    (hQ : ∀ c a w, Q (.panic c) (a.put oi.dst undef) w → Q (.panic c) a w := by exact fun _ _ _ h => h)
    (hy : Yields P ops oi undef a := by exact Or.inr ⟨by rfl, rfl⟩) (ha : a.put (some N) undef = a' := by (simp only [Act.put, List.setIfInBounds_toArray, List.set_cons_zero, List.set_cons_succ, i64_w, i32_w]; rfl)) : wpAnyLast P md ops Q S ds (fuel + 1) l a w :=
  pure_ l' hi hN hc hQ hy ha h
end
end Go.Proofs.YtcoialpohgfikaaGreatDoor.C
end
namespace Go.Proofs.YtcoialpohgfikaaGreatDoor.C
open Go.RowKit Go.Proofs.YtcoialpohgfikaaGreatDoorW.PrintWords Go.Proofs.YtcoialpohgfikaaGreatDoorW.PrintLast Go.Proofs.YtcoialpohgfikaaGreatDoorW.PrintMore
attribute [local go_sem] max2_int min2_int max_two min_two max_three min_three max_four min_four
set_option linter.unusedVariables false
set_option maxHeartbeats 8000000
set_option maxRecDepth 100000
set_option linter.unusedSimpArgs false
theorem api_Feature_72.calls (A : Option Addr) (c : Nat) (ws : List S65) (r : List S65) (w : World) (hr : Kd.C k65 w A ws.length ws) (hc : ws.length ≤ c) (h : api_Feature_72.f ws = some r) :
  Calls Tryz.prog 72 #[.slice A ws.length c] w fun e w' => ∃ v0_ : Value, e = .returned v0_ ∧ Kd.R k65 65 w' w.heap.size (fun _ => True) v0_ r ∧ Below w.heap.size w w' := by
 unfold api_Feature_72.f at h
 by_cases hl : (ws.length : Int) ≤ 1000000
 ·rw [if_pos hl] at h
  obtain rfl := Option.some.inj h
  have q1 := eql32_nil
  have q2 := eql32_some
  have HB := am (Below.refl w.heap.size w)
  cases A with
  | none =>
   obtain rfl := C65_nil hr
   clear hr hl h
   go_enter Tryz.func72, Tryz.ntmps72
   go_wp2
   go_ret
   exact ⟨_, rfl, Kd.R_nil _ _ _ _ _, HB.out⟩
  | some ad =>
   have HR := am hr
   have HL := am hl
   obtain ⟨n, hn⟩ : ∃ n, ws.length = n := ⟨_, rfl⟩
   rw [hn] at HR HL ⊢
   have HN := am hn
   clear hr hl hn h hc
   go_enter Tryz.func72, Tryz.ntmps72
   go_wp2_with (first | (at_builtin; refine Kd.R_append_rows k65 (Rr := k65.K w) (w0 := w) w.heap.size rfl (.tmp 5) (.tmp 6) 32 65 (.agg #[.string ⟨#[]⟩, .string ⟨#[]⟩]) 32 rfl Tryz.underlying32 wInfo65 rfl (by decide) (by omega) (.slice (some ⟨w.heap.size, 0, none⟩) 0 0) [] ws (some ad) n c (fun _ => True) (fun _ => False) rfl rfl (mt_row65 w) ?rd (fun x cs hx => by rw [k65_open hx]; exact k65_mkM _ _ _ _) (fun _ hk => hk.elim) (fun _ _ => trivial) (below_alloc (Below.refl _ _) _) (by simp) (by have := HL.out; simp; omega) ?_; (case rd => exact ReadsRow.imp_ HR.out (below_alloc (Below.refl _ _) _) (fun _ _ hp => hp)); intro v1 w1 ho hb hg hat; have HO := am ho; have HB1 := am hb; clear ho hb hg hat))
   go_ret
   exact ⟨_, rfl, HO.out, HB1.out⟩
 rw [if_neg hl] at h
 exact absurd h (by simp)
end Go.Proofs.YtcoialpohgfikaaGreatDoor.C
namespace Go.Proofs.YtcoialpohgfikaaGreatDoor.C
open Go.RowKit Go.Proofs.YtcoialpohgfikaaGreatDoorW.PrintWords Go.Proofs.YtcoialpohgfikaaGreatDoorW.PrintLast Go.Proofs.YtcoialpohgfikaaGreatDoorW.PrintMore
attribute [local go_sem] max2_int min2_int max_two min_two max_three min_three max_four min_four
set_option linter.unusedVariables false
set_option linter.unusedSimpArgs false
theorem eqA65 (d : Nat) (w : World) (x0 y0 : ByteArray) (x1 y1 : ByteArray) :
    (Op.equalIn (d + 2) 65 (.agg #[.string x0, .string x1]) (.agg #[.string y0, .string y1])).run Tryz.prog w = .ok (x0.toList == y0.toList && (x1.toList == y1.toList)) w := by
  refine eqA_of Tryz.underlying65 (by kernel_rfl) ?_
  refine eqf_cons (by rfl) (by go_simp; rfl) (by go_simp; rfl) (by go_simp) ?_
  exact eqf_last (by rfl) (by go_simp; rfl) (by go_simp; rfl) (by go_simp)
end Go.Proofs.YtcoialpohgfikaaGreatDoor.C
namespace Go.Proofs.YtcoialpohgfikaaGreatDoor.C
open Go.RowKit Go.Proofs.YtcoialpohgfikaaGreatDoorW.PrintWords Go.Proofs.YtcoialpohgfikaaGreatDoorW.PrintLast Go.Proofs.YtcoialpohgfikaaGreatDoorW.PrintMore
attribute [local go_sem] max2_int min2_int max_two min_two max_three min_three max_four min_four
set_option linter.unusedVariables false
set_option maxHeartbeats 8000000
set_option maxRecDepth 100000
set_option linter.unusedSimpArgs false
attribute [local go_sem high] eqA65
theorem feature_Subsumes.calls (k : Nat) (A0 : Option Addr) (c0 : Nat) (l0 : List (S65)) (A1 : Option Addr) (c1 : Nat) (l1 : List (S65)) (r : Bool) (w : World) (hr0 : Kd.C k65 w A0 l0.length l0) (hc0 : l0.length ≤ c0) (hr1 : Kd.C k65 w A1 l1.length l1) (hc1 : l1.length ≤ c1) (h : feature_Subsumes.f k l0 l1 = some r) :
  Calls Tryz.prog 91 #[.slice A0 l0.length c0, .slice A1 l1.length c1] w fun e w' => e = .returned (.bool r) ∧ Below w.heap.size w w' := by
 have hu65 := Tryz.underlying65
 have HR0 := am hr0
 have HC0 := am hc0
 clear hr0 hc0
 have HR1 := am hr1
 have HC1 := am hc1
 clear hr1 hc1
 have HB := am (Below.refl w.heap.size w)
 have H : (feature_Subsumes.l0 k l1 0 l0 (l0.length : Int) 0) = some r := h
 clear h
 have H' := am H
 clear H
 go_enter Tryz.func91, Tryz.ntmps91
 go_wp2
 repeat (go_quiet (fail); try go_wp2)
 go_loopg [5, 10] k (fun kq v5 v10 w' => ∃ (x5_1 : Int) (x10_1 : Int), v5 = .int .i64 x5_1 ∧ v10 = .int .i64 x10_1 ∧ Aside0 (feature_Subsumes.l0 kq l1 x5_1 l0 (l0.length : Int) x10_1 = some r) ∧ Aside0 (kq ≤ k) ∧ Aside0 (Below w.heap.size w w'))
 case atStart => exact ⟨(0), (0), rq, rq, H', ⟨Nat.le_refl _⟩, ⟨bq⟩⟩
 case round =>
  clear H'
  obtain ⟨x5_1, x10_1, rfl, rfl, HA, HK1, HB⟩ := hrel
  cases gk with
  | zero => exact absurd HA.out (by simp [feature_Subsumes.l0])
  | succ k1 =>
   have H := HA.out
   clear HA
   simp only [feature_Subsumes.l0] at H
   by_cases c3 : x10_1 < (l0.length : Int)
   ·rw [if_pos c3] at H
    have c3b0 : decide (x10_1 < (l0.length : Int)) = true := decide_eq_true c3
    clear c3
    by_cases c4 : 0 ≤ x10_1
    ·rw [if_pos c4] at H
     have c4b0 : decide (0 ≤ x10_1) = true := decide_eq_true c4
     clear c4
     by_cases c5 : x10_1 < (l0.length : Int)
     ·rw [if_pos c5] at H
      have c5b0 : decide (x10_1 < (l0.length : Int)) = true := decide_eq_true c5
      clear c5
      have H' := am H
      clear H
      have p107 : 0 ≤ (x10_1 : Int) := oq
      have q107 : x10_1 < (l0.length : Int) := oq
      obtain ⟨ad107, e107, hx107_0, hx107_1⟩ := at_T65 HR0.out x10_1 p107 q107
      cases e107
      replace hx107_0 := cw hx107_0
      replace hx107_1 := cw hx107_1
      replace p107 := eq_true p107
      replace q107 := eq_true q107
      go_wp2_with (first | ((with_reducible refine gate_dst (N := 7) rfl ?_); refine bx 7 #[.string (⟨#[]⟩ : ByteArray), .string (⟨#[]⟩ : ByteArray)] 65 ?_; intro gb108 hg w6 hbox hb; have BK108 := am hbox; have GE108 := sz hg; replace HB := bs hb; clear hb hbox hg; obtain ⟨zaa, zab, zac, zad⟩ := bc2 BK108))
      repeat (go_quiet (first | ((with_reducible refine gate_dst (N := 7) rfl ?_); refine bx 7 #[.string (⟨#[]⟩ : ByteArray), .string (⟨#[]⟩ : ByteArray)] 65 ?_; intro gb108 hg w6 hbox hb; have BK108 := am hbox; have GE108 := sz hg; replace HB := bs hb; clear hb hbox hg; obtain ⟨zaa, zab, zac, zad⟩ := bc2 BK108)); try go_wp2_with (first | ((with_reducible refine gate_dst (N := 7) rfl ?_); refine bx 7 #[.string (⟨#[]⟩ : ByteArray), .string (⟨#[]⟩ : ByteArray)] 65 ?_; intro gb108 hg w6 hbox hb; have BK108 := am hbox; have GE108 := sz hg; replace HB := bs hb; clear hb hbox hg; obtain ⟨zaa, zab, zac, zad⟩ := bc2 BK108)))
      go_loopg [5] k1 (fun kq v5 w' => ∃ (x5_2 : Int), v5 = .int .i64 x5_2 ∧ Aside0 (feature_Subsumes.l1 kq l1 x5_2 l0 (l0.length : Int) x10_1 ((rd_T65 l0 x10_1).f0) ((rd_T65 l0 x10_1).f1) = some r) ∧ Aside0 (kq ≤ k1) ∧ Aside0 (w'.heap[gb108]? = some (.cells #[.string ((rd_T65 l0 x10_1).f0), .string ((rd_T65 l0 x10_1).f1)] 65 (0, 0))) ∧ Aside0 (Below w.heap.size w w'))
      case atStart => exact ⟨(x5_1), rq, H', ⟨Nat.le_refl _⟩, ⟨bp BK108⟩, ⟨bq⟩⟩
      case round =>
       clear H'
       clear c3b0 c4b0 c5b0 zaa zab zac zad hx107_0 hx107_1 p107 q107
       obtain ⟨x5_2, rfl, HA, HK2, BK108, HB⟩ := hrel
       cases gk with
       | zero => exact absurd HA.out (by simp [feature_Subsumes.l1])
       | succ k2 =>
        have H := HA.out
        clear HA
        simp only [feature_Subsumes.l1] at H
        by_cases c8 : x5_2 < (l1.length : Int)
        ·rw [if_pos c8] at H
         have c8b0 : decide (x5_2 < (l1.length : Int)) = true := decide_eq_true c8
         clear c8
         by_cases c9 : 0 ≤ x5_2
         ·rw [if_pos c9] at H
          have c9b0 : decide (0 ≤ x5_2) = true := decide_eq_true c9
          clear c9
          by_cases c10 : (Op.bytesLess (((rd_T65 l1 x5_2).f0).toList) ((rd_T65 l0 x10_1).f0).toList) = true
          ·rw [if_pos c10] at H
           have c10b0 : (Op.bytesLess (((rd_T65 l1 x5_2).f0).toList) ((rd_T65 l0 x10_1).f0).toList) = true := c10
           clear c10
           have H' := am H
           clear H
           have p109 : 0 ≤ (x5_2 : Int) := oq
           have q109 : x5_2 < (l1.length : Int) := oq
           obtain ⟨ad109, e109, hx109_0, hx109_1⟩ := at_T65 HR1.out x5_2 p109 q109
           cases e109
           replace hx109_0 := cw hx109_0
           replace hx109_1 := cw hx109_1
           replace p109 := eq_true p109
           replace q109 := eq_true q109
           obtain ⟨zae, zaf, zag, zah⟩ := bc2 BK108
           go_wp2
           repeat (go_quiet (fail); try go_wp2)
           go_roundg k2
           case measure => have := HK1.out; have := HK2.out; omega
           case rel => exact ⟨(wrap64 (x5_2 + 1)), rq, H', ⟨by have := HK1.out; have := HK2.out; omega⟩, ⟨bd BK108⟩, ⟨bq⟩⟩
          rw [if_neg c10] at H
          have c10b0 : (Op.bytesLess (((rd_T65 l1 x5_2).f0).toList) ((rd_T65 l0 x10_1).f0).toList) = false := by simpa using c10
          clear c10
          by_cases c12 : x5_2 = (l1.length : Int)
          ·rw [if_pos c12] at H
           have c12b0 : (x5_2 == (l1.length : Int)) = true := beq_iff_eq.mpr c12
           have c12b1 : (x5_2 != (l1.length : Int)) = false := bne_eq_false_iff_eq.mpr c12
           clear c12
           obtain rfl := Option.some.inj H
           have p109 : 0 ≤ (x5_2 : Int) := oq
           have q109 : x5_2 < (l1.length : Int) := oq
           obtain ⟨ad109, e109, hx109_0, hx109_1⟩ := at_T65 HR1.out x5_2 p109 q109
           cases e109
           replace hx109_0 := cw hx109_0
           replace hx109_1 := cw hx109_1
           replace p109 := eq_true p109
           replace q109 := eq_true q109
           obtain ⟨zai, zaj, zak, zal⟩ := bc2 BK108
           go_wp2
           repeat (go_quiet (fail); try go_wp2)
           go_ret
           exact ⟨eq', bq⟩
          rw [if_neg c12] at H
          have c12b0 : (x5_2 == (l1.length : Int)) = false := beq_eq_false_iff_ne.mpr c12
          have c12b1 : (x5_2 != (l1.length : Int)) = true := bne_iff_ne.mpr c12
          by_cases c14 : (!((((rd_T65 l1 x5_2).f0).toList) == ((rd_T65 l0 x10_1).f0).toList) || (!((((rd_T65 l1 x5_2).f1).toList) == ((rd_T65 l0 x10_1).f1).toList))) = true
          ·rw [if_pos c14] at H
           have c14b0 : (!((((rd_T65 l1 x5_2).f0).toList) == ((rd_T65 l0 x10_1).f0).toList) || (!((((rd_T65 l1 x5_2).f1).toList) == ((rd_T65 l0 x10_1).f1).toList))) = true := c14
           clear c14
           obtain rfl := Option.some.inj H
           have p109 : 0 ≤ (x5_2 : Int) := oq
           have q109 : x5_2 < (l1.length : Int) := oq
           obtain ⟨ad109, e109, hx109_0, hx109_1⟩ := at_T65 HR1.out x5_2 p109 q109
           cases e109
           replace hx109_0 := cw hx109_0
           replace hx109_1 := cw hx109_1
           replace p109 := eq_true p109
           replace q109 := eq_true q109
           obtain ⟨zam, zan, zao, zap⟩ := bc2 BK108
           have p110 : 0 ≤ (x5_2 : Int) := oq
           have q110 : x5_2 < (l1.length : Int) := oq
           obtain ⟨ad110, e110, hx110_0, hx110_1⟩ := at_T65 HR1.out x5_2 p110 q110
           obtain rfl : ad109 = ad110 := (by injection e110)
           replace hx110_0 := cw hx110_0
           replace hx110_1 := cw hx110_1
           replace p110 := eq_true p110
           replace q110 := eq_true q110
           go_wp2
           repeat (go_quiet (fail); try go_wp2)
           go_ret
           exact ⟨eq', bq⟩
          rw [if_neg c14] at H
          have c14b0 : (!((((rd_T65 l1 x5_2).f0).toList) == ((rd_T65 l0 x10_1).f0).toList) || (!((((rd_T65 l1 x5_2).f1).toList) == ((rd_T65 l0 x10_1).f1).toList))) = false := by simpa using c14
          clear c14
          have H' := am H
          clear H
          have p109 : 0 ≤ (x5_2 : Int) := oq
          have q109 : x5_2 < (l1.length : Int) := oq
          obtain ⟨ad109, e109, hx109_0, hx109_1⟩ := at_T65 HR1.out x5_2 p109 q109
          cases e109
          replace hx109_0 := cw hx109_0
          replace hx109_1 := cw hx109_1
          replace p109 := eq_true p109
          replace q109 := eq_true q109
          obtain ⟨zaq, zar, zas, zat⟩ := bc2 BK108
          have p110 : 0 ≤ (x5_2 : Int) := oq
          have q110 : x5_2 < (l1.length : Int) := oq
          obtain ⟨ad110, e110, hx110_0, hx110_1⟩ := at_T65 HR1.out x5_2 p110 q110
          obtain rfl : ad109 = ad110 := (by injection e110)
          replace hx110_0 := cw hx110_0
          replace hx110_1 := cw hx110_1
          replace p110 := eq_true p110
          replace q110 := eq_true q110
          go_wp2
          repeat (go_quiet (fail); try go_wp2)
          go_roundg k2
          case measure => have := HK1.out; have := HK2.out; omega
          case rel => exact ⟨(wrap64 (x5_2 + 1)), (wrap64 (x10_1 + 1)), rq, rq, H', ⟨by have := HK1.out; have := HK2.out; omega⟩, ⟨bq⟩⟩
         rw [if_neg c9] at H
         exact absurd H (by simp)
        rw [if_neg c8] at H
        have c8b0 : decide (x5_2 < (l1.length : Int)) = false := decide_eq_false c8
        clear c8
        by_cases c17 : x5_2 = (l1.length : Int)
        ·rw [if_pos c17] at H
         have c17b0 : (x5_2 == (l1.length : Int)) = true := beq_iff_eq.mpr c17
         have c17b1 : (x5_2 != (l1.length : Int)) = false := bne_eq_false_iff_eq.mpr c17
         clear c17
         obtain rfl := Option.some.inj H
         go_wp2
         repeat (go_quiet (fail); try go_wp2)
         go_ret
         exact ⟨eq', bq⟩
        rw [if_neg c17] at H
        have c17b0 : (x5_2 == (l1.length : Int)) = false := beq_eq_false_iff_ne.mpr c17
        have c17b1 : (x5_2 != (l1.length : Int)) = true := bne_iff_ne.mpr c17
        by_cases c18 : 0 ≤ x5_2
        ·rw [if_pos c18] at H
         exact absurd H (by simp)
        rw [if_neg c18] at H
        exact absurd H (by simp)
     rw [if_neg c5] at H
     exact absurd H (by simp)
    rw [if_neg c4] at H
    exact absurd H (by simp)
   rw [if_neg c3] at H
   have c3b0 : decide (x10_1 < (l0.length : Int)) = false := decide_eq_false c3
   clear c3
   obtain rfl := Option.some.inj H
   go_wp2
   repeat (go_quiet (fail); try go_wp2)
   go_ret
   exact ⟨eq', bq⟩
@[go_sem] theorem wide_fn (f : FuncId) : Fence.wide.fn f = True := rfl
@[go_sem] theorem wide_depth : Fence.wide.depth = none := rfl
structure Off (S : Nat → Prop) (W W' : World) : Prop where
  os : W'.os = W.os
  tape : W'.tape = W.tape
  output : W'.output = W.output
  size : W.heap.size ≤ W'.heap.size
  block : ∀ k, k < W.heap.size → ¬ S k → W'.heap[k]? = W.heap[k]?
theorem Off.refl (S : Nat → Prop) (W : World) : Off S W W := ⟨rfl, rfl, rfl, Nat.le_refl _, fun _ _ _ => rfl⟩
theorem Off.trans {S : Nat → Prop} {A B C : World} (h : Off S A B) (k : Off S B C) : Off S A C :=
  ⟨k.os.trans h.os, k.tape.trans h.tape, k.output.trans h.output, Nat.le_trans h.size k.size, fun i hi_ hh => (k.block i (Nat.lt_of_lt_of_le hi_ h.size) hh).trans (h.block i hi_ hh)⟩
theorem Off.of_below {S : Nat → Prop} {W W' : World} (h : Below W.heap.size W W') : Off S W W' := ⟨h.os, h.tape, h.output, h.size, fun k hk _ => h.block k hk⟩
theorem Off.below {S : Nat → Prop} {lo : Nat} {W W' : World} (h : Off S W W') (hl : lo ≤ W.heap.size) (hS : ∀ k, S k → lo ≤ k) : Below lo W W' :=
  ⟨h.os, h.tape, h.output, h.size, fun k hk => h.block k (Nat.lt_of_lt_of_le hk hl) (fun hs => by have := hS k hs; omega)⟩
theorem Off.blk {S : Nat → Prop} {g : Nat} {W W' : World} {o : Obj} (h : Off S W W') (hg : W.heap[g]? = some o) (hh : ¬ S g) : W'.heap[g]? = some o := (h.block g (Array.getElem?_eq_some_iff.1 hg).1 hh).trans hg
theorem Off.cell {S : Nat → Prop} {W W' : World} {p : Addr} {v : Value} (h : Off S W W') (hc : W.cell? p = some v) (hh : ¬ S p.block) : W'.cell? p = some v := by
 have hlt := World.block_lt_of_cell? W p hc
 exact (World.cell?_of_block (h.block p.block hlt hh)).trans hc
theorem Off.setCell {S : Nat → Prop} {W W1 : World} (h : Off S W W1) {p : Addr} (h1 : S p.block) (u : Value) : Off S W (W1.setCell p u) :=
  h.trans ⟨rfl, rfl, rfl, by simp [World.setCell], fun k _ hk => Below.heap_setCell _ _ _ _ (fun e => hk (e ▸ h1))⟩
theorem Off.wider {S S' : Nat → Prop} {W W' : World} (h : Off S W W') (hh : ∀ k, S k → S' k) : Off S' W W' := ⟨h.os, h.tape, h.output, h.size, fun k hk hkk => h.block k hk (fun hs => hkk (hh k hs))⟩
theorem Off.alloc {S : Nat → Prop} {W W1 : World} (h : Off S W W1) (o : Obj) : Off S W (W1.alloc o) := h.trans (Off.of_below (below_alloc (Below.refl _ _) _))
theorem Off.drew {S : Nat → Prop} {W W1 : World} (h : Off S W W1) : Off S W W1.drew := h.trans (Off.of_below (below_drew (Below.refl _ _)))
structure Turn (lo : Nat) (W W' : World) : Prop where
  os : W'.os = W.os
  tape : W'.tape = W.tape
  output : W'.output = W.output
  size : W.heap.size ≤ W'.heap.size
  block : ∀ (k : Nat) (o : Obj), W.heap[k]? = some o → (k < lo ∨ o.isCells = true) → W'.heap[k]? = some o
theorem Turn.of_below {lo : Nat} {W W' : World} (h : Below W.heap.size W W') : Turn lo W W' := ⟨h.os, h.tape, h.output, h.size, fun k o hk _ => blk_below hk h⟩
theorem Turn.putObj {lo l : Nat} {W : World} {o : Obj} (o' : Obj) (hl : lo ≤ l) (h : W.heap[l]? = some o) (hc : o.isCells = false) : Turn lo W (W.putObj l o') :=
 ⟨rfl, rfl, rfl, by simp, fun k o2 hk hh => by
  refine (World.putObj_heap_other ?_).trans hk
  rintro rfl
  rw [h] at hk
  injection hk with hk
  subst hk
  rcases hh with hh | hh
  ·omega
  rw [hc] at hh
  cases hh⟩
theorem Turn.below {lo : Nat} {W W' : World} (h : Turn lo W W') (hl : lo ≤ W.heap.size) : Below lo W W' :=
 ⟨h.os, h.tape, h.output, h.size, fun k hk => by
  obtain ⟨o, ho⟩ : ∃ o, W.heap[k]? = some o := ⟨_, Array.getElem?_eq_getElem (Nat.lt_of_lt_of_le hk hl)⟩
  rw [ho]
  exact h.block k o ho (.inl hk)⟩
theorem Turn.blk {lo g t : Nat} {W W' : World} {cs : Array Value} {fr : Nat × Nat} (h : Turn lo W W') (hg : W.heap[g]? = some (.cells cs t fr)) : W'.heap[g]? = some (.cells cs t fr) := h.block g _ hg (.inr rfl)
theorem ne_cells {W : World} {D g : Nat} {ds : Option (List Deferred)} {cs : Array Value} {t : TypeId} {fr : Nat × Nat} (hK : W.heap[D]? = some (.deferred ds)) (hg : W.heap[g]? = some (.cells cs t fr)) : D ≠ g := by
 rintro rfl
 rw [hK] at hg
 cases hg
theorem blk_far' {w : World} {g : Nat} {o : Obj} (h : w.heap[g]? = some o) {p : Addr} (hp : g ≠ p.block) (u : Value) : (w.setCell p u).heap[g]? = some o := (Below.heap_setCell w p u g hp).trans h
theorem put_far {w : World} {g D : Nat} {o : Obj} (h : w.heap[g]? = some o) (hp : D ≠ g) (o' : Obj) : (w.putObj D o').heap[g]? = some o := (World.putObj_heap_other (Ne.symm hp)).trans h
def cPost (S : Nat → Prop) (I : Nat → World → Prop) (Ix : Code → World → Prop) (m : Nat) (W : World) : Exit → Act → World → Prop
  | .normal, _, W' => Off S W W' ∧ I (m + 1) W'
  | .ret, _, W' => Off S W W' ∧ Ix .ret W'
  | .exit id, _, W' => Off S W W' ∧ Ix (.exit id) W'
  | .goto t, _, W' => Off S W W' ∧ Ix (.goto t) W'
  | .panic _, _, _ => False
  | .outgrown, _, _ => False
def IterC (P : Program) (gf : Nat) (lb : Array Value) (S : Nat → Prop) (G : Nat → Value → World → Prop) (St : Nat → Prop) (w : World) : Prop :=
  ∀ (l : Nat) (J : Nat → World → Prop) (Jx : World → Prop) (W : World), Below w.heap.size w W → w.heap.size + 2 ≤ W.heap.size →
    (∀ m A A', J m A → Below A.heap.size A A' → J m A') → (∀ A A', Jx A → Below A.heap.size A A' → Jx A') →
    (∀ m v A, J m A → G m v A → YieldAt Fence.wide 0 P l #[v] A fun e A' => (e = .returned (.bool true) ∧ J (m + 1) A' ∧ Off S A A') ∨ (e = .returned (.bool false) ∧ Jx A')) →
    J 0 W → Calls P gf (#[.func (.yield l) #[] #[]] ++ lb) W fun e W' => (∃ v, e = .returned v) ∧ ((∃ m, St m ∧ J m W') ∨ Jx W')
theorem wp_rangeFunc {P : Program} {g : Operand} {ps : Array Tmp} {assign body : Code} {Q : Exit → Act → World → Prop} {a : Act} {w : World}
  {gf : Nat} {lb : Array Value} (hg : a.eval g = .func (.func gf) #[] lb) (eg : ∀ args w, (callFunc gf args).run P w = .ok (.enter gf args) w) (hps : ps.size = 1)
  (lo : Nat) (hlo : lo ≤ w.heap.size) (S : Nat → Prop) (hS : ∀ k, S k → k < w.heap.size) (G : Nat → Value → World → Prop) (St : Nat → Prop) (hseq : IterC P gf lb (fun k => S k ∨ k = w.heap.size ∨ k = w.heap.size + 1) G St w)
  (hG : ∀ m v A A', G m v A → Turn lo A A' → G m v A')
  (I : Nat → World → Prop) (Ix : Code → World → Prop) (hI : ∀ m A A', I m A → Turn lo A A' → I m A') (hIx : ∀ c A A', Ix c A → Turn lo A A' → Ix c A') (h0 : I 0 w) (sl : List Nat)
  (hassign : ∀ (l : Nat) (v : Value) (W : World) (K : Act → World → Prop), K { tmps := sl.foldl (fun t s => t.setIfInBounds s v) a.tmps, defers := [] } W →
  assign.wpIn (Fence.wide.inRound l) 0 P (Exit.then K (fun _ _ _ => False)) { tmps := (ps.zip #[v]).foldl (fun t (p, v) => t.setIfInBounds p v) a.tmps, defers := [] } W)
  (hbody : ∀ (l m : Nat) (v : Value) (W : World), w.heap.size + 2 ≤ W.heap.size → I m W → G m v W → body.wpIn (Fence.wide.inRound l) 0 P (cPost S I Ix m W) { tmps := sl.foldl (fun t s => t.setIfInBounds s v) a.tmps, defers := [] } W)
  (hdone : ∀ (D m : Nat) (W : World), w.heap.size ≤ D → St m → I m W → W.heap[D]? = some (.deferred (some [])) → Q .normal { a with defers := { target := .collected D, args := #[] } :: a.defers } W)
  (hstop : ∀ (D : Nat) (c : Code) (W : World), w.heap.size ≤ D → Ix c W → W.heap[D]? = some (.deferred (some [])) → c.wpIn Fence.wide 0 P Q { a with defers := { target := .collected D, args := #[] } :: a.defers } W) :
  (Code.rangeFunc g ps assign body).wp P Q a w := by
 refine (wpIn_wide (n := 0)).1 (wpIn_rangeFunc ?_)
 intro fn hfn
 obtain ⟨rec, hrec⟩ : ∃ rec : LoopState → Option Code → Loop, rec = fun st pe => { state := st, pending := pe, fn, tmps := a.tmps, params := ps, assign, body, defers := w.heap.size } := ⟨_, rfl⟩
 obtain ⟨W1, hW1⟩ : ∃ W1, (w.alloc (.deferred (some []))).alloc (.loop (rec .ready none)) = W1 := ⟨_, rfl⟩
 have hsz1 : W1.heap.size = w.heap.size + 2 := by rw [← hW1]; simp
 have hL1 : W1.heap[w.heap.size + 1]? = some (.loop (rec .ready none)) := by
  rw [← hW1]; have := World.alloc_heap_new (w.alloc (.deferred (some []))) (.loop (rec .ready none)); rwa [World.size_alloc] at this
 have hK1 : W1.heap[w.heap.size]? = some (.deferred (some [])) := by
  rw [← hW1]; exact (Below.heap_alloc _ _ _ (by simp)).trans (World.alloc_heap_new w _)
 have hb1 : Below w.heap.size w W1 := by
  rw [← hW1]; exact below_alloc (below_alloc (Below.refl _ _) _) _
 have hI1 : I 0 W1 := hI _ _ _ h0 (Turn.of_below hb1)
 refine ⟨w.heap.size + 1, [{ target := .collected w.heap.size, args := #[] }], W1, { target := .fn (.func gf) lb, args := #[.func (.yield (w.heap.size + 1)) #[] #[]] }, W1, gf,
  #[.func (.yield (w.heap.size + 1)) #[] #[]] ++ lb, W1, ?_, ?_, fun _ _ => trivial, ?_, (fun h => by cases h), ?_⟩
 ·rw [← hW1, hrec]; exact run_enterLoop_outer _ _ _ _ _
 ·simp only [resolve, hg]
  simp [go_sem]
 ·simp [invoke, go_sem, eg]
 refine callsIn_wide.2 ((hseq (w.heap.size + 1)
  (fun m W => I m W ∧ W.heap[w.heap.size + 1]? = some (.loop (rec .ready none)) ∧ W.heap[w.heap.size]? = some (.deferred (some [])) ∧ w.heap.size + 2 ≤ W.heap.size)
  (fun W => ∃ c, Ix c W ∧ W.heap[w.heap.size + 1]? = some (.loop (rec .done (some c))) ∧ W.heap[w.heap.size]? = some (.deferred (some [])))
  W1 hb1 (by omega)
  (fun m A A' hs hb => ⟨hI _ _ _ hs.1 (Turn.of_below hb), blk_below hs.2.1 hb, blk_below hs.2.2.1 hb, Nat.le_trans hs.2.2.2 hb.size⟩)
  (fun A A' hs hb => by
   obtain ⟨c, hc, hl, hk⟩ := hs
   exact ⟨c, hIx _ _ _ hc (Turn.of_below hb), blk_below hl hb, blk_below hk hb⟩)
  ?_ ⟨hI1, hL1, hK1, by omega⟩).mono ?_)
 ·rintro m v W ⟨hi, hl, hk, hz⟩ hgv
  have hlt : w.heap.size + 1 < W.heap.size := (Array.getElem?_eq_some_iff.1 hl).1
  have hy := run_yield (P := P) (args := #[v]) hl (by rw [hrec]; simp [hps])
  rw [hrec] at hy
  refine ⟨fn, _, assign, body, hy, roundIn_of_wpIn trivial (hassign _ v W _ ⟨_, run_beginRound hl (by rw [hrec]), ?_⟩)⟩
  have hl2 : (W.putObj (w.heap.size + 1) (.loop { rec .ready none with state := .busy })).heap[w.heap.size + 1]? = some (.loop { rec .ready none with state := .busy }) := World.putObj_heap_same hlt
  have hk2 : (W.putObj (w.heap.size + 1) (.loop { rec .ready none with state := .busy })).heap[w.heap.size]? = some (.deferred (some [])) := (World.putObj_heap_other (by omega)).trans hk
  have ho2 : ∀ (A : World) (o' : Obj), Off (fun k => S k ∨ k = w.heap.size ∨ k = w.heap.size + 1) A (A.putObj (w.heap.size + 1) o') := fun A o' => ⟨rfl, rfl, rfl, by simp, fun k _ hk => World.putObj_heap_other (fun e => hk (.inr (.inr e)))⟩
  have ht2 : Turn lo W (W.putObj (w.heap.size + 1) (.loop { rec .ready none with state := .busy })) := Turn.putObj _ (by omega) hl rfl
  refine wpIn_mono (hbody _ m v _ (by simp; omega) (hI _ _ _ hi ht2) (hG _ _ _ _ hgv ht2)) ?_
  have fin : ∀ (jump : Option Code) (W3 : World), Off S (W.putObj (w.heap.size + 1) (.loop { rec .ready none with state := .busy })) W3 →
    (Instr.endRound (w.heap.size + 1) jump).run P W3 = .ok (.bool jump.isNone) (W3.putObj (w.heap.size + 1) (.loop (rec (if jump.isNone then .ready else .done) jump))) ∧
    W3.heap[w.heap.size + 1]? = some (.loop { rec .ready none with state := .busy }) ∧
    (W3.putObj (w.heap.size + 1) (.loop (rec (if jump.isNone then .ready else .done) jump))).heap[w.heap.size + 1]? = some (.loop (rec (if jump.isNone then .ready else .done) jump)) ∧
    (W3.putObj (w.heap.size + 1) (.loop (rec (if jump.isNone then .ready else .done) jump))).heap[w.heap.size]? = some (.deferred (some [])) ∧
    Off (fun k => S k ∨ k = w.heap.size ∨ k = w.heap.size + 1) W (W3.putObj (w.heap.size + 1) (.loop (rec (if jump.isNone then .ready else .done) jump))) := fun jump W3 hk3 => by
   have hl3 := hk3.blk hl2 (fun hs => by have := hS _ hs; omega)
   have := run_endRound (P := P) jump hl3
   rw [hrec] at this ⊢
   exact ⟨this, by rw [hrec] at hl3; exact hl3, World.putObj_heap_same (Array.getElem?_eq_some_iff.1 hl3).1, (World.putObj_heap_other (by omega)).trans (hk3.blk hk2 (fun hs => by have := hS _ hs; omega)), ((ho2 W _).trans (by rw [hrec] at hk3; exact hk3.wider (fun k h => .inl h))).trans (ho2 W3 _)⟩
  rintro e a3 W3 hp
  cases e with
  | normal =>
   obtain ⟨hk3, hi3⟩ := hp
   obtain ⟨hr, hl3, hl4, hk4, hoff⟩ := fin none W3 hk3
   exact ⟨_, _, hr, .inl ⟨rfl, ⟨hI _ _ _ hi3 (Turn.putObj _ (by omega) hl3 rfl), hl4, hk4, by have := hk3.size; simp at this ⊢; omega⟩, hoff⟩⟩
  | ret =>
   obtain ⟨hk3, hi3⟩ := hp
   obtain ⟨hr, hl3, hl4, hk4, hoff⟩ := fin (some .ret) W3 hk3
   exact ⟨_, _, hr, .inr ⟨rfl, .ret, hIx _ _ _ hi3 (Turn.putObj _ (by omega) hl3 rfl), hl4, hk4⟩⟩
  | exit id =>
   obtain ⟨hk3, hi3⟩ := hp
   obtain ⟨hr, hl3, hl4, hk4, hoff⟩ := fin (some (.exit id)) W3 hk3
   exact ⟨_, _, hr, .inr ⟨rfl, .exit id, hIx _ _ _ hi3 (Turn.putObj _ (by omega) hl3 rfl), hl4, hk4⟩⟩
  | goto t =>
   obtain ⟨hk3, hi3⟩ := hp
   obtain ⟨hr, hl3, hl4, hk4, hoff⟩ := fin (some (.goto t)) W3 hk3
   exact ⟨_, _, hr, .inr ⟨rfl, .goto t, hIx _ _ _ hi3 (Turn.putObj _ (by omega) hl3 rfl), hl4, hk4⟩⟩
  | panic ch => exact hp.elim
  | outgrown => exact hp.elim
 rintro e W2 ⟨⟨v, rfl⟩, (⟨m, hS, hi, hl, hk, hz⟩ | ⟨c, hi, hl, hk⟩)⟩
 ·exact ⟨none, _, by have := run_endLoop (P := P) hl (by rw [hrec]; simp); rw [hrec] at this; exact this, hdone _ m _ (Nat.le_refl _) hS (hI _ _ _ hi (Turn.putObj _ (by omega) hl rfl)) ((World.putObj_heap_other (by omega)).trans hk)⟩
 exact ⟨some c, _, by have := run_endLoop (P := P) hl (by rw [hrec]; simp); rw [hrec] at this; exact this, hstop _ c _ (Nat.le_refl _) (hIx _ _ _ hi (Turn.putObj _ (by omega) hl rfl)) ((World.putObj_heap_other (by omega)).trans hk)⟩
theorem calls_of_marks {P : Program} {f : FuncId} {fn : Func} {c : Code} {args : Array Value} {w : World} {R : Ending → World → Prop}
  (hf : P.funcs[f]? = some fn) (hb : fn.body = some c)
  (h : c.wp P (bodyPostM Fence.wide 0 P fn R) { tmps := args ++ Array.replicate (fn.ntmps - args.size) undef, defers := [] } w) : Calls P f args w R :=
 callsIn_wide.1 (callsIn_of_wp_marks (n := 0) hf hb trivial (wpIn_wide.2 h))
theorem wInfo140 : (Tryz.prog.info? 140).map (fun i => (i.zero, i.size, i.bytes)) = some (some (.agg #[.slice none 0 0, .int .i64 0]), 2, 32) := by kernel_rfl
theorem below_setB {B : Nat} {w W : World} {g j : Nat} {v : Value} (h : Below B w W) (hg : B ≤ g) : Below B w (W.setCell ⟨g, j, none⟩ v) := h.setCell hg _
def Tab (w : World) (base g : Nat) (es : List S140) : Prop := base ≤ g ∧ ∃ v, w.heap[g]? = some (.cells #[v] 138 (0, 0)) ∧ Kd.R k140 140 w base (fun k => k ≠ g) v es
theorem Tab.below {w w' : World} {base g : Nat} {es : List S140} (h : Tab w base g es) (hb : Below w.heap.size w w') : Tab w' base g es := by
 obtain ⟨h1, v, h2, h3⟩ := h
 exact ⟨h1, v, blk_below h2 hb, Kd.R_below h3 hb⟩
theorem table_New.calls (w : World) : Calls Tryz.prog 49 #[] w fun e w' => e = .returned (.pointer (some ⟨w.heap.size, 0, none⟩)) ∧ w' = w.alloc (.cells #[.slice none 0 0] 138) := by
 go_enter Tryz.func49, Tryz.ntmps49
 go_wp2
 go_ret
 exact ⟨rfl, rfl⟩
theorem Tab.new (w : World) (base : Nat) (h : base ≤ w.heap.size) : Tab (w.alloc (.cells #[.slice none 0 0] 138)) base w.heap.size [] :=
  ⟨h, _, blk_new w _, Kd.R_nil _ _ _ _ _⟩
theorem table_Add.calls (w0 : World) (base g : Nat) (A : Option Addr) (c : Nat) (ws : List S65) (m : Int) (es : List S140) (w : World) (hb0 : Below base w0 w) (hbase : base ≤ w.heap.size) (ht : Tab w base g es) (hr : Kd.C k65 w A ws.length ws) (hc : ws.length ≤ c) (hl : (ws.length : Int) ≤ 1000000) (hes : es.length ≤ 1000000) :
  Calls Tryz.prog 50 #[.pointer (some ⟨g, 0, none⟩), .slice A ws.length c, .int .i64 m] w fun e w' => e = .returned (.tuple #[]) ∧ Tab w' base g (es ++ [⟨ws, m⟩]) ∧ Below base w0 w' := by
 obtain ⟨hg0, v, hbk, hrow⟩ := ht
 have HB := am (below_drew hb0)
 have HBK := am (blk_drew hbk)
 have HT := am (Kd.R_drew hrow)
 have HR := am (Kd.C_drew hr)
 have HC := am hc
 have HF := am (show api_Feature_72.f ws = some ws from if_pos hl)
 have HES := am hes
 have HS := am (show base ≤ w.drew.heap.size from hbase)
 have HG := am hg0
 clear hb0 hbk hrow hr hc hl hes hbase hg0
 go_enter Tryz.func50, Tryz.ntmps50
 refine start_ (n := 14) (S := fun w' => w'.cell? ⟨g, 0, none⟩ = some v) (ds := [13]) (tf 14 0) (by kernel_rfl) rfl rfl ((blk_cell HBK.out 0).trans rfl) (fun hHeld => ?_)
 generalize w.drew = wd at HB HBK HT HR HS hHeld ⊢
 refine pure_ (i := 0) (N := some 6) (v := ?_) (a' := ?_) (tf 14 1) rfl rfl (by kernel_rfl) (fun _ _ _ h => h) (Or.inl ⟨by rfl, ?_⟩) ?_ ?_
 rotate_left
 ·intro w'
  go_simp
  with_reducible rfl
 rotate_left
 ·simp only [Act.put, List.setIfInBounds_toArray, List.set_cons_zero, List.set_cons_succ, i64_w, i32_w]
  rfl
 refine pure_ (i := 1) (N := some 7) (v := ?_) (a' := ?_) (tf 14 2) rfl rfl (by kernel_rfl) (fun _ _ _ h => h) (Or.inl ⟨by rfl, ?_⟩) ?_ ?_
 rotate_left
 ·intro w'
  go_simp
  with_reducible rfl
 rotate_left
 ·simp only [Act.put, List.setIfInBounds_toArray, List.set_cons_zero, List.set_cons_succ, i64_w, i32_w]
  rfl
 refine pure_ (i := 2) (N := some 8) (v := ?_) (a' := ?_) (tf 14 3) rfl rfl (by kernel_rfl) (fun _ _ _ h => h) (Or.inl ⟨by rfl, ?_⟩) ?_ ?_
 rotate_left
 ·intro w'
  go_simp
  with_reducible rfl
 rotate_left
 ·simp only [Act.put, List.setIfInBounds_toArray, List.set_cons_zero, List.set_cons_succ, i64_w, i32_w]
  rfl
 refine pure_ (i := 3) (N := some 9) (v := ?_) (a' := ?_) (tf 14 4) rfl rfl (by kernel_rfl) (fun _ _ _ h => h) (Or.inl ⟨by rfl, ?_⟩) ?_ ?_
 rotate_left
 ·intro w'
  go_simp
  with_reducible rfl
 rotate_left
 ·simp only [Act.put, List.setIfInBounds_toArray, List.set_cons_zero, List.set_cons_succ, i64_w, i32_w]
  rfl
 refine pure_ (i := 5) (N := some 11) (v := ?_) (a' := ?_) #[true, true, true, true, false, true, false, false, false, false, false, false, false, false] rfl rfl (by kernel_rfl) (fun _ _ _ h => h) (Or.inl ⟨by rfl, ?_⟩) ?_ ?_
 rotate_left
 ·intro w'
  go_simp
  with_reducible rfl
 rotate_left
 ·simp only [Act.put, List.setIfInBounds_toArray, List.set_cons_zero, List.set_cons_succ, i64_w, i32_w]
  rfl
 refine pure_ (i := 7) (N := some 13) (v := ?_) (a' := ?_) #[true, true, true, true, false, true, false, true, false, false, false, false, false, false] rfl rfl (by kernel_rfl) (fun _ _ _ h => h) (Or.inl ⟨by rfl, ?_⟩) ?_ ?_
 rotate_left
 ·intro w'
  go_simp
  with_reducible rfl
 rotate_left
 ·simp only [Act.put, List.setIfInBounds_toArray, List.set_cons_zero, List.set_cons_succ, i64_w, i32_w]
  rfl
 refine take_ (i := 4) (N := some 10) (v := ?_) (a' := ?_) #[true, true, true, true, true, true, false, true, false, false, false, false, false, false] rfl rfl (by kernel_rfl) (fun _ _ _ h => h) (Or.inl ⟨by rfl, ?_⟩) hHeld ?_ ?_
 rotate_left
 ·intro w' s0
  go_simp
  with_reducible rfl
 rotate_left
 ·simp only [Act.put, List.setIfInBounds_toArray, List.set_cons_zero, List.set_cons_succ, i64_w, i32_w]
  rfl
 refine one_ (i := 6) (N := some 12) (tf 14 8) rfl rfl (by kernel_rfl) (by decide) (fun K hK => ?_)
 refine goes_ Tryz.func72 (by kernel_rfl) rfl #[.slice A ws.length c] (by rfl) rfl rfl (by simp only [List.map_toArray, List.map_cons, List.map_nil]; rfl) ?_
 with_reducible refine (api_Feature_72.calls A c ws ws _ HR.out HC.out HF.out).mono ?_
 rintro e w3 ⟨v0, rfl, hR, hb⟩
 obtain ⟨A2, c2, rfl, _, _⟩ := Kd.R_reads hR
 refine ⟨_, rfl, ?_⟩
 have BK3 := am (blk_below HBK.out hb)
 have HT3 := am (Kd.R_below HT.out hb)
 have HB3 := am (HB.out.trans (hb.mono HS.out))
 have HR3 := am (Kd.R_bound hR)
 have HS3 := am (Nat.le_trans HS.out hb.size)
 have HGL := am (blk_lt HBK.out)
 have HSZ := am hb.size
 have HVL := am (fun k (hk : v.ownBlock = some k) => (Kd.R_bound HT.out).1 k hk)
 clear hR hb
 refine hK.out _ _ ((blk_cell BK3.out 0).trans rfl) (fun hHeld => ?_)
 clear hK K
 refine norm_ (a' := ?_) ?_ ?_
 rotate_left
 ·show Act.put _ (some 12) _ = _
  simp only [Act.put, List.setIfInBounds_toArray, List.set_cons_zero, List.set_cons_succ, i64_w, i32_w]
  rfl
 refine pure_ (i := 8) (N := some 14) (v := ?_) (a' := ?_) (tf 14 9) rfl rfl (by kernel_rfl) (fun _ _ _ h => h) (Or.inl ⟨by rfl, ?_⟩) ?_ ?_
 rotate_left
 ·intro w'
  go_simp
  with_reducible rfl
 rotate_left
 ·simp only [Act.put, List.setIfInBounds_toArray, List.set_cons_zero, List.set_cons_succ, i64_w, i32_w]
  rfl
 refine one_ (i := 9) (N := some 15) (tf 14 10) rfl rfl (by kernel_rfl) (by decide) (fun K hK => ?_)
 refine value_ (w1 := ?_) (v := ?_) (by rfl) rfl ?_ ?_
 rotate_left 2
 ·go_simp
  constructor
  ·rfl
  rfl
 have BK3a := am (blk_alloc BK3.out (.cells #[.slice A2 ws.length c2, .int .i64 m] 140))
 refine hK.out _ _ ((blk_cell BK3a.out 0).trans rfl) (fun hHeld => ?_)
 clear hK K
 refine norm_ (a' := ?_) ?_ ?_
 rotate_left
 ·show Act.put _ (some 15) _ = _
  simp only [Act.put, List.setIfInBounds_toArray, List.set_cons_zero, List.set_cons_succ, i64_w, i32_w]
  rfl
 refine one_ (i := 10) (N := some 16) (tf 14 11) rfl rfl (by kernel_rfl) (by decide) (fun K hK => ?_)
 refine Kd.R_append_step k140 (w0 := w0) base (by rfl) (.tmp 10) (.tmp 15) 136 140 (.agg #[.slice none 0 0, .int .i64 0]) 32 rfl Tryz.underlying136 wInfo140 rfl (by decide) (by omega) v es ⟨ws, m⟩ [.slice A2 ws.length c2, .int .i64 m] (fun k => k ≠ g) (fun k => wd.heap.size ≤ k) rfl rfl ?p ?okp ?fresh HT3.out HB3.out HS3.out (by have := HES.out; omega) ?_
 (case p => exact k140_mkM _ _ _ _ (Kd.R_mono (Kd.R_lower HR3.out HS.out) (fun k hk => hk.2.1)))
 (case okp => exact fun k hk => ⟨fun e => by have := HGL.out; omega, fun e => by have := (HVL.out k e.symm).2.2.1; omega⟩)
 (case fresh => exact fun k hk e => by have := HGL.out; have := HSZ.out; omega)
 intro v2 w4 ho hb4 hg4 hat4
 have BK4 := am ((hg4.block g (blk_lt BK3.out) (fun e => HT3.out.1 g e.symm rfl)).trans BK3.out)
 have HT4 := am ho
 have HB4 := am hb4
 obtain ⟨A4, c4, e4⟩ := Kd.R_slice ho
 have hf4 := blk_frozen BK4.out 0
 have hc4 := (blk_cell BK4.out 0).trans rfl
 rw [show (es ++ [(⟨ws, m⟩ : S140)]).length = es.length + 1 by simp] at e4
 clear ho hb4 hg4 hat4
 subst e4
 refine hK.out _ _ ((blk_cell BK4.out 0).trans rfl) (fun hHeld => ?_)
 clear hK K
 refine norm_ (a' := ?_) ?_ ?_
 rotate_left
 ·show Act.put _ (some 16) _ = _
  simp only [Act.put, List.setIfInBounds_toArray, List.set_cons_zero, List.set_cons_succ, i64_w, i32_w]
  rfl
 refine pure_ (i := 11) (N := some 17) (v := ?_) (a' := ?_) (tf 14 12) rfl rfl (by kernel_rfl) (fun _ _ _ h => h) (Or.inl ⟨by rfl, ?_⟩) ?_ ?_
 rotate_left
 ·intro w'
  go_simp
  with_reducible rfl
 rotate_left
 ·simp only [Act.put, List.setIfInBounds_toArray, List.set_cons_zero, List.set_cons_succ, i64_w, i32_w]
  rfl
 refine pure_ (i := 12) (N := some 18) (v := ?_) (a' := ?_) (tf 14 13) rfl rfl (by kernel_rfl) (fun _ _ _ h => h) (Or.inl ⟨by rfl, ?_⟩) ?_ ?_
 rotate_left
 ·intro w'
  go_simp
  with_reducible rfl
 rotate_left
 ·simp only [Act.put, List.setIfInBounds_toArray, List.set_cons_zero, List.set_cons_succ, i64_w, i32_w]
  rfl
 refine last_ (i := 13) (N := none) (tf 14 14) rfl rfl (by kernel_rfl) (by decide) (fun K hK => ?_)
 refine skip_ (w1 := ?_) (by rfl) rfl ?_ ?_
 rotate_left
 ·go_simp
  rfl
 refine hK.out _ _ ?_
 clear hK K
 refine done_ (by kernel_rfl) ?_
 refine bodyPost_end (results_none rfl _ _ _) rfl ?_
 refine ⟨rfl, ⟨HG.out, _, blk_set BK4.out 0 _, Kd.R_far HT4.out (p := ⟨g, 0, none⟩) (fun k hk => hk) _⟩, below_setB HB4.out HG.out⟩
theorem table_Matches.calls (g : Nat) (A : Option Addr) (n c : Nat) (w : World) :
  Calls Tryz.prog 73 #[.pointer (some ⟨g, 0, none⟩), .slice A n c] w fun e w' => e = .returned (.func (.func 90) #[] #[.pointer (some ⟨w.heap.size, 0, none⟩), .pointer (some ⟨w.heap.size + 1, 0, none⟩)]) ∧ w' = (w.alloc (.cells #[.pointer (some ⟨g, 0, none⟩)] 109)).alloc (.cells #[.slice A n c] 32) := by
 go_enter Tryz.func73, Tryz.ntmps73
 go_wp2
 go_ret
 exact ⟨by simp, rfl⟩
theorem table_Matches1.iter (k base g b1 b2 : Nat) (es : List S140) (A : Option Addr) (c : Nat) (fs : List S65) (ms : List Int) (S : Nat → Prop) (w0 w : World)
  (ht : Tab w0 base g es) (hr : Kd.C k65 w0 A fs.length fs) (hc : fs.length ≤ c) (hes : es.length ≤ 1000000) (hb0 : Below w0.heap.size w0 w)
  (h1 : w.heap[b1]? = some (.cells #[.pointer (some ⟨g, 0, none⟩)] 109 (0, 0))) (h2 : w.heap[b2]? = some (.cells #[.slice A fs.length c] 32 (0, 0)))
  (hS : ∀ j, S j → w0.heap.size ≤ j) (hS1 : ¬ S b1) (hS2 : ¬ S b2) (hm : matT k fs es = some ms) :
  IterC Tryz.prog 90 #[.pointer (some ⟨b1, 0, none⟩), .pointer (some ⟨b2, 0, none⟩)] S (fun m v _ => m < ms.length ∧ v = .int .i64 (rd ms (m : Int))) (fun m => m = ms.length) w := by
 intro l J Jx W hbW hsz hJ hJx hY h0
 obtain ⟨hg0, v, hbk, hrow⟩ := ht
 obtain ⟨A4, c4, rfl, hle4, hC4⟩ := Kd.R_reads hrow
 have HC4 := am hC4
 have HC := am hc
 have HR := am hr
 have HES := am hes
 have HLE := am hle4
 have hBW : Below w0.heap.size w0 W := hb0.trans (hbW.mono hb0.size)
 have HB := am hBW
 have hx1 : W.cell? ⟨b1, 0, none⟩ = some (.pointer (some ⟨g, 0, none⟩)) := (blk_cell (blk_below h1 hbW) 0).trans rfl
 have B2 := am (blk_below h2 hbW)
 have hxg : W.cell? ⟨g, 0, none⟩ = some (.slice A4 es.length c4) := (blk_cell (blk_below hbk hBW) 0).trans rfl
 have HJ := am hJ
 have HJX := am hJx
 have HY := am hY
 have H0 := am h0
 have HM := am hm
 have HS := am hS
 have HS2 := am hS2
 clear hbW hsz hJ hJx hY h0 hg0 hbk hrow hC4 hr hc hes hb0 hBW h1 h2 hS hS1 hS2 hm hle4
 show Calls Tryz.prog 90 #[.func (.yield l) #[] #[], .pointer (some ⟨b1, 0, none⟩), .pointer (some ⟨b2, 0, none⟩)] W _
 go_enter Tryz.func90, Tryz.ntmps90
 go_wp2
 go_loopg [11] (es.length + 1) (fun kq v11 w' => ∃ (i m : Nat), v11 = .int .i64 (i : Int) ∧ Aside0 (i ≤ es.length) ∧ Aside0 (es.length - i < kq) ∧ Aside0 (matT k fs (es.drop i) = some (ms.drop m)) ∧ Aside0 (m ≤ ms.length) ∧ Aside0 (J m w') ∧ Aside0 (Below w0.heap.size w0 w') ∧ Aside0 (w'.heap[b2]? = some (.cells #[.slice A fs.length c] 32 (0, 0))))
 case atStart => exact ⟨0, 0, rfl, ⟨Nat.zero_le _⟩, ⟨by omega⟩, ⟨by simpa using HM.out⟩, ⟨Nat.zero_le _⟩, H0, HB, B2⟩
 case round =>
  obtain ⟨i, m, rfl, IM, IK, IA, MM, IJ, IB, I2⟩ := hrel
  clear hx1 hxg
  obtain ⟨k1, rfl⟩ : ∃ k1, gk = k1 + 1 := ⟨gk - 1, by have := IK.out; omega⟩
  by_cases c1 : i < es.length
  ·have hA := IA.out
   rw [List.drop_eq_getElem_cons c1, show es[i] = rd_T140 es (i : Int) by simp [rd_T140, List.getD, List.getElem?_eq_getElem c1], matT] at hA
   obtain ⟨b, hb, hA⟩ := Option.bind_eq_some_iff.1 hA
   obtain ⟨ms', hms, hA⟩ := Option.bind_eq_some_iff.1 hA
   have HSB := am hb
   have HA := am (Option.some.inj hA)
   have HMS := am hms
   obtain ⟨ad, A0, c0, ead, hx0, hxv, hle, hC0⟩ := at_T140 (Kd.C_below HC4.out IB.out) (i : Int) (by omega) (by omega)
   subst ead
   rw [Int.toNat_natCast] at hx0 hxv
   have L0 := am hle
   have C0 := am hC0
   have IL := am c1
   have p1 : (0 ≤ (i : Int)) = True := eq_true (by omega)
   have q2 : ((i : Int) < (es.length : Int)) = True := eq_true (by omega)
   have q2b : decide ((i : Int) < (es.length : Int)) = true := decide_eq_true (by omega)
   have hw1 : wrap64 ((i : Int) + 1) = (i : Int) + 1 := by have := HES.out; unfold wrap64; omega
   clear c1 hb hA hms hle hC0 IA
   have hx2 := fun o => pw_cell_below (below_alloc (Below.refl wr.heap.size wr) o) ((blk_cell I2.out 0).trans rfl : wr.cell? ⟨b2, 0, none⟩ = some (.slice A fs.length c))
   cases b
   ·have hA := HA.out
    rw [if_neg (by decide)] at hA
    have HA2 := am hA
    clear hA HA
    go_wp2_with (first | (go_at_call 91; (with_reducible refine (feature_Subsumes.calls k A0 c0 _ A c _ false _ (Kd.C_below C0.out (below_alloc (Below.refl _ _) _)) L0.out (Kd.C_below (Kd.C_below HR.out IB.out) (below_alloc (Below.refl _ _) _)) HC.out HSB.out).mono ?_); rintro e w2 ⟨rfl, hb⟩; have HB2 := am (below_step (below_alloc (Below.refl _ _) _) hb); clear hb))
    go_roundg k1
    case measure => omega
    case rel => exact ⟨i + 1, m, by first | rfl | (rw [hw1]; rfl), ⟨IL.out⟩, ⟨by have := IK.out; have := IL.out; omega⟩, ⟨by rw [HMS.out, HA2.out]⟩, MM, ⟨HJ.out _ _ _ IJ.out HB2.out⟩, ⟨below_step IB.out HB2.out⟩, ⟨blk_below I2.out HB2.out⟩⟩
   have hA := HA.out
   rw [if_pos rfl] at hA
   have hml : m < ms.length := by
    rcases Nat.lt_or_ge m ms.length with h | h
    ·exact h
    rw [List.drop_eq_nil_of_le h] at hA
    cases hA
   rw [List.drop_eq_getElem_cons hml] at hA
   obtain ⟨hv1, hA2⟩ := List.cons.inj hA
   have HML := am hml
   have HA2 := am hA2
   have HV := am (show (rd_T140 es (i : Int)).f1 = rd ms (m : Int) by rw [hv1]; simp [rd, List.getD, List.getElem?_eq_getElem hml])
   clear hA HA hml hv1 hA2
   go_upto_region 3 with (fail)
   refine (wpIn_wide (n := 0)).1 ?_
   gi_wp2_with (first | (gi_at_call 91; refine (callsIn_wide.2 (feature_Subsumes.calls k A0 c0 _ A c _ true _ (Kd.C_below C0.out (below_alloc (Below.refl _ _) _)) L0.out (Kd.C_below (Kd.C_below HR.out IB.out) (below_alloc (Below.refl _ _) _)) HC.out HSB.out)).mono ?_; rintro e w2 ⟨rfl, hb⟩; have HB2 := am (below_step (below_alloc (Below.refl _ _) _) hb); have hv2 := pw_cell_below hb ((blk_cell (blk_new wr (.cells #[.slice A0 (rd_T140 es (i : Int)).f0.length c0, .int .i64 (rd_T140 es (i : Int)).f1] 140)) 1).trans rfl : _ = some (.int .i64 (rd_T140 es (i : Int)).f1)); clear hb; obtain ⟨fn_, tm_, as_, bo_, hy, hR⟩ := HY.out m (.int .i64 (rd_T140 es (i : Int)).f1) w2 (HJ.out _ _ _ IJ.out HB2.out) ⟨HML.out, congrArg _ HV.out⟩; have HRD := am hR; clear hR))
   refine HRD.out.mono ?_
   rintro e W' (⟨rfl, hJ', hoff⟩ | ⟨rfl, hJx'⟩)
   ·have HJ' := am hJ'
    have HOF := am hoff
    clear hJ' hoff
    gi_wp2
    go_wp2
    go_roundg k1
    case measure => omega
    case rel => exact ⟨i + 1, m + 1, by first | rfl | (rw [hw1]; rfl), ⟨IL.out⟩, ⟨by have := IK.out; have := IL.out; omega⟩, ⟨by rw [HMS.out, HA2.out]⟩, ⟨HML.out⟩, HJ', ⟨(below_step IB.out HB2.out).trans (HOF.out.below (below_step IB.out HB2.out).size HS.out)⟩, ⟨HOF.out.blk (blk_below I2.out HB2.out) HS2.out⟩⟩
   have HJ' := am hJx'
   clear hJx'
   gi_wp2
   go_wp2
   refine bodyPost_ret (results_none rfl _ _ _) rfl ?_
   exact ⟨⟨_, rfl⟩, .inr HJ'.out⟩
  obtain rfl : i = es.length := by have := IM.out; omega
  have q2b : decide ((es.length : Int) < (es.length : Int)) = false := decide_eq_false (by omega)
  have hA := IA.out
  rw [List.drop_eq_nil_of_le (Nat.le_refl _), matT] at hA
  have hml : m = ms.length := by
   have h1 := Option.some.inj hA
   rcases Nat.lt_or_ge m ms.length with h | h
   ·rw [List.drop_eq_getElem_cons h] at h1
    cases h1
   have := MM.out
   omega
  have HML := am hml
  clear c1 hA hml
  go_wp2
  go_end0
  exact ⟨⟨_, rfl⟩, .inl ⟨m, HML.out, IJ.out⟩⟩
attribute [local go_sem] Oper.semAt_some
theorem table_Find.calls (k base g : Nat) (es : List S140) (A : Option Addr) (c : Nat) (fs : List S65) (ms : List Int) (w : World) (ht : Tab w base g es) (hr : Kd.C k65 w A fs.length fs) (hc : fs.length ≤ c) (hes : es.length ≤ 1000000) (hm : matT k fs es = some ms) :
  Calls Tryz.prog 51 #[.pointer (some ⟨g, 0, none⟩), .slice A fs.length c] w fun e w' => e = .returned (.tuple #[.int .i64 (rd ms 0), .bool (!ms.isEmpty)]) ∧ Below w.heap.size w w' := by
 have HT := am ht
 have HR := am hr
 have HC := am hc
 have HES := am hes
 have HM := am hm
 clear ht hr hc hes hm
 refine calls_of_marks Tryz.func51 rfl ?_
 simp only [Tryz.ntmps51, List.size_toArray, List.length_cons, List.length_nil, Nat.reduceAdd, Nat.reduceSub, Array.replicate_succ, Array.replicate_zero, List.push_toArray, List.append_toArray, List.nil_append, List.cons_append]
 go_wp2_with (first | (go_at_call 73; refine (table_Matches.calls g A fs.length c _).mono ?_; rintro e w1 ⟨rfl, rfl⟩))
 generalize hW : ((((w.alloc (.cells #[.int .i64 0] 3)).alloc (.cells #[.bool false] 4)).alloc (.cells #[.pointer (some ⟨g, 0, none⟩)] 109)).alloc (.cells #[.slice A fs.length c] 32)) = W0
 have hsz : W0.heap.size = w.heap.size + 1 + 1 + 1 + 1 := by rw [← hW]; simp
 have b4 : W0.heap[w.heap.size]? = some (.cells #[.int .i64 0] 3 (0, 0)) := by rw [← hW]; exact blk_alloc (blk_alloc (blk_alloc (blk_new w _) _) _) _
 have b5 : W0.heap[w.heap.size + 1]? = some (.cells #[.bool false] 4 (0, 0)) := by rw [← hW]; exact blk_alloc (blk_alloc (by have := blk_new (w.alloc (.cells #[.int .i64 0] 3)) (.cells #[.bool false] 4); rwa [World.size_alloc] at this) _) _
 have b1 : W0.heap[w.heap.size + 1 + 1]? = some (.cells #[.pointer (some ⟨g, 0, none⟩)] 109 (0, 0)) := by rw [← hW]; exact blk_alloc (by have := blk_new ((w.alloc (.cells #[.int .i64 0] 3)).alloc (.cells #[.bool false] 4)) (.cells #[.pointer (some ⟨g, 0, none⟩)] 109); rwa [World.size_alloc, World.size_alloc] at this) _
 have b2 : W0.heap[w.heap.size + 1 + 1 + 1]? = some (.cells #[.slice A fs.length c] 32 (0, 0)) := by rw [← hW]; have := blk_new (((w.alloc (.cells #[.int .i64 0] 3)).alloc (.cells #[.bool false] 4)).alloc (.cells #[.pointer (some ⟨g, 0, none⟩)] 109)) (.cells #[.slice A fs.length c] 32); rwa [World.size_alloc, World.size_alloc, World.size_alloc] at this
 have hb : Below w.heap.size w W0 := by rw [← hW]; exact below_alloc (below_alloc (below_alloc (below_alloc (Below.refl _ _) _) _) _) _
 clear hW
 refine wp_rangeFunc rfl (enters_of Tryz.func90 (by kernel_rfl) rfl) rfl w.heap.size (by omega) (fun k => k = w.heap.size ∨ k = w.heap.size + 1) (fun k hk => by omega) _ _
  (table_Matches1.iter k base g (w.heap.size + 1 + 1) (w.heap.size + 1 + 1 + 1) es A c fs ms _ w W0 HT.out HR.out HC.out HES.out hb b1 b2 (fun j hj => by omega) (by omega) (by omega) HM.out)
  (fun m v X X' h _ => h)
  (fun m W => m = 0 ∧ W.heap[w.heap.size]? = some (.cells #[.int .i64 0] 3 (0, 0)) ∧ W.heap[w.heap.size + 1]? = some (.cells #[.bool false] 4 (0, 0)) ∧ Below w.heap.size w W)
  (fun cd W => cd = .ret ∧ ms ≠ [] ∧ W.heap[w.heap.size]? = some (.cells #[.int .i64 (rd ms 0)] 3 (0, 0)) ∧ W.heap[w.heap.size + 1]? = some (.cells #[.bool true] 4 (0, 0)) ∧ Below w.heap.size w W)
  (fun m X X' h ht => ⟨h.1, ht.blk h.2.1, ht.blk h.2.2.1, h.2.2.2.trans (ht.below h.2.2.2.size)⟩)
  (fun cd X X' h ht => ⟨h.1, h.2.1, ht.blk h.2.2.1, ht.blk h.2.2.2.1, h.2.2.2.2.trans (ht.below h.2.2.2.2.size)⟩)
  ⟨rfl, b4, b5, hb⟩ [11, 6] ?assign ?body ?done ?stop
 case assign =>
  intro l v W K hK
  simp only [List.foldl_cons, List.foldl_nil, List.setIfInBounds_toArray, List.set_cons_zero, List.set_cons_succ] at hK
  gi_wp2
  exact hK
 case body =>
  rintro l m v W hsz1 ⟨rfl, c4, c5, hB⟩ ⟨hml, rfl⟩
  simp only [List.foldl_cons, List.foldl_nil, List.setIfInBounds_toArray, List.set_cons_zero, List.set_cons_succ]
  have hx4 := (blk_cell c4 0).trans rfl
  have hf4 := blk_frozen c4 0
  have hx5 := (blk_cell c5 0).trans rfl
  have hf5 := blk_frozen c5 0
  have HML := am hml
  have C4 := am c4
  have C5 := am c5
  have HB := am hB
  clear hml c4 c5 hB b4 b5 b1 b2 hb
  gi_wp2
  have hne : w.heap.size ≠ w.heap.size + 1 := by omega
  exact ⟨((Off.refl _ _).setCell (p := ⟨w.heap.size, 0, none⟩) (.inl rfl) _).setCell (p := ⟨w.heap.size + 1, 0, none⟩) (.inr rfl) _, rfl, (fun e => by have := HML.out; rw [e] at this; simp at this), blk_far (blk_set C4.out 0 _) (p := ⟨w.heap.size + 1, 0, none⟩) hne _, blk_set (blk_far C5.out (p := ⟨w.heap.size, 0, none⟩) (Ne.symm hne) _) 0 _, below_set (below_set HB.out (Nat.le_refl _)) (by omega)⟩
 case done =>
  rintro D m W hD hm ⟨rfl, c4, c5, hB⟩ hK
  obtain rfl : ms = [] := List.eq_nil_of_length_eq_zero hm.symm
  dsimp only
  have hx4 := (blk_cell c4 0).trans rfl
  have hf4 := blk_frozen c4 0
  have hx5 := (blk_cell c5 0).trans rfl
  have hf5 := blk_frozen c5 0
  have C4 := am c4
  have C5 := am c5
  have HB := am hB
  have HK := am hK
  have HD := am (show w.heap.size ≤ D by omega)
  clear c4 c5 hB hK b4 b5 b1 b2 hb hsz hD hm
  go_wp2
  refine ⟨by simp, .inl ⟨_, _, rfl, run_takeDeferred (blk_far' (blk_far' HK.out (p := ⟨w.heap.size, 0, none⟩) (ne_cells HK.out C4.out) _) (p := ⟨w.heap.size + 1, 0, none⟩) (ne_cells HK.out C5.out) _), ?_⟩⟩
  have hne : w.heap.size ≠ w.heap.size + 1 := by omega
  have K2 := am (blk_far' (blk_far' HK.out (p := ⟨w.heap.size, 0, none⟩) (ne_cells HK.out C4.out) (.int .i64 0)) (p := ⟨w.heap.size + 1, 0, none⟩) (ne_cells HK.out C5.out) (.bool false))
  have D4 := am (blk_far (blk_set C4.out 0 (.int .i64 0)) (p := ⟨w.heap.size + 1, 0, none⟩) hne (.bool false))
  have D5 := am (blk_set (blk_far C5.out (p := ⟨w.heap.size, 0, none⟩) (Ne.symm hne) (.int .i64 0)) 0 (.bool false))
  have HB2 := am (below_set (j := 0) (v := .bool false) (below_set (j := 0) (v := .int .i64 0) HB.out (Nat.le_refl _)) (by omega : w.heap.size ≤ w.heap.size + 1))
  have hx4 := (blk_cell (put_far D4.out (ne_cells K2.out D4.out) (.deferred none)) 0).trans rfl
  have hx5 := (blk_cell (put_far D5.out (ne_cells K2.out D5.out) (.deferred none)) 0).trans rfl
  refine ⟨.tuple #[.int .i64 0, .bool false], by simp [results, Tryz.results51, go_sem, hx4, hx5], rfl, ?_⟩
  exact HB2.out.trans (belowK_b (w := w) (Nat.le_refl _) _ D _ _ HD.out K2.out rfl rfl)
 case stop =>
  rintro D cd W hD ⟨rfl, hne, c4, c5, hB⟩ hK
  refine wpIn_ret ?_
  have C4 := am c4
  have C5 := am c5
  have HB := am hB
  have HK := am hK
  have HD := am (show w.heap.size ≤ D by omega)
  clear c4 c5 hB hK b4 b5 b1 b2 hb hsz hD
  go_wp2
  refine ⟨by simp, .inl ⟨_, _, rfl, run_takeDeferred HK.out, ?_⟩⟩
  have hx4 : (W.putObj D (.deferred none)).cell? ⟨w.heap.size, 0, none⟩ = some (.int .i64 (rd ms 0)) := (blk_cell (put_far C4.out (ne_cells HK.out C4.out) _) 0).trans rfl
  have hx5 : (W.putObj D (.deferred none)).cell? ⟨w.heap.size + 1, 0, none⟩ = some (.bool true) := (blk_cell (put_far C5.out (ne_cells HK.out C5.out) _) 0).trans rfl
  refine ⟨.tuple #[.int .i64 (rd ms 0), .bool true], by simp [results, Tryz.results51, go_sem, hx4, hx5], ?_, ?_⟩
  ·cases ms with
   | nil => exact absurd rfl hne
   | cons x xs => rfl
  exact HB.out.trans (belowK_b (w := w) (Nat.le_refl _) W D _ _ HD.out HK.out rfl rfl)
theorem at_slots {w : World} {A : Option Addr} {n : Nat} {xs : List (List S79)} (h : Kd.C (Kd.slice 79 k79) w A n xs) (i : Int) (h0 : 0 ≤ i) (h1 : i < n) : ∃ ad A0 c0, A = some ad ∧ w.cell? (ad.add i.toNat) = some (.slice A0 (rd_slots xs i).length c0) ∧ (rd_slots xs i).length ≤ c0 ∧ k79.C w A0 (rd_slots xs i).length (rd_slots xs i) := by
 obtain ⟨ad, c, e, _, hK, hc0⟩ := Kd.C_get h ([] : List S79) i h0 h1
 have hc : ∀ j u, c[j]? = some u → w.cell? (ad.add (i.toNat * 1 + j)) = some u := hc0
 obtain ⟨A0, c0, rfl, l0, g0⟩ := hK
 exact ⟨ad, A0, c0, e, by have hq := hc 0 _ rfl; rwa [Nat.mul_one, Nat.add_zero] at hq, l0, g0⟩
theorem paradigm_Chosen.calls (k : Nat) (a0_0 : ByteArray) (A0_1 : Option Addr) (c0_1 : Nat) (l0_1 : List S55) (A0_2 : Option Addr) (c0_2 : Nat) (l0_2 : List (List S79)) (a1 : Int) (A2 : Option Addr) (c2 : Nat) (l2 : List S65) (r : Int) (w : World) (hr0_1 : Kd.C k55 w A0_1 l0_1.length l0_1) (hc0_1 : l0_1.length ≤ c0_1) (hr0_2 : Kd.C (Kd.slice 79 k79) w A0_2 l0_2.length l0_2) (hc0_2 : l0_2.length ≤ c0_2) (hr2 : Kd.C k65 w A2 l2.length l2) (hc2 : l2.length ≤ c2) (h : paradigm_Chosen.f k a0_0 l0_1 l0_2 a1 l2 = some r) :
  Calls Tryz.prog 26 #[.agg #[.string a0_0, .slice A0_1 l0_1.length c0_1, .slice A0_2 l0_2.length c0_2], .int .i64 a1, .slice A2 l2.length c2] w fun e w' => e = .returned (.int .i64 r) ∧ Below w.heap.size w w' := by
 unfold paradigm_Chosen.f at h
 have HR0 := am hr0_2
 have HC0 := am hc0_2
 have HR2 := am hr2
 have HC2 := am hc2
 clear hr0_1 hc0_1 hr0_2 hc0_2 hr2 hc2
 by_cases h1 : a1 < 0
 ·rw [if_pos h1] at h
  obtain rfl := Option.some.inj h
  have e1 : decide (a1 < 0) = true := decide_eq_true h1
  clear h h1
  go_enter Tryz.func26, Tryz.ntmps26
  go_wp2
  go_ret
  exact ⟨rfl, below_alloc (Below.refl _ _) _⟩
 rw [if_neg h1] at h
 have e1 : decide (a1 < 0) = false := decide_eq_false h1
 by_cases h2 : (l0_2.length : Int) ≤ a1
 ·rw [if_pos h2] at h
  obtain rfl := Option.some.inj h
  have e2 : decide (a1 ≥ (l0_2.length : Int)) = true := decide_eq_true h2
  have e2b : decide ((l0_2.length : Int) ≤ a1) = true := decide_eq_true h2
  clear h h1 h2
  go_enter Tryz.func26, Tryz.ntmps26
  go_wp2
  go_ret
  exact ⟨rfl, below_alloc (Below.refl _ _) _⟩
 rw [if_neg h2] at h
 have e2 : decide (a1 ≥ (l0_2.length : Int)) = false := decide_eq_false h2
 have e2b : decide ((l0_2.length : Int) ≤ a1) = false := decide_eq_false h2
 by_cases h3 : affOk (rd_slots l0_2 a1) = true
 ·rw [if_pos h3] at h
  obtain ⟨ms, hms, h⟩ := Option.bind_eq_some_iff.1 h
  have HMS := am hms
  have HRR := am (Option.some.inj h)
  obtain ⟨ad, A3, c3, ead, hx0, hl3, hC3⟩ := at_slots HR0.out a1 (by omega) (by omega)
  subst ead
  simp only [affOk, Bool.and_eq_true, decide_eq_true_eq, List.all_eq_true] at h3
  obtain ⟨hn, hall⟩ := h3
  have HN := am hn
  have HALL := am hall
  have HL3 := am hl3
  have HC3 := am hC3
  obtain ⟨l, hl⟩ : ∃ l, rd_slots l0_2 a1 = l := ⟨_, rfl⟩
  rw [hl] at HMS HN HALL HL3 HC3 hx0
  have p1 : (0 ≤ a1) = True := eq_true (by omega)
  have p2 : (a1 < (l0_2.length : Int)) = True := eq_true (by omega)
  have hxa := fun o => pw_cell_below (below_alloc (Below.refl w.heap.size w) o) hx0
  have hxb := fun o o' => pw_cell_below (below_alloc (below_alloc (Below.refl w.heap.size w) o) o') hx0
  clear h h1 h2 hms hn hall hl3 hC3 hl hx0
  go_enter Tryz.func26, Tryz.ntmps26
  go_wp2_with (first | (go_at_call 49; refine (table_New.calls _).mono ?_; rintro e w1 ⟨rfl, rfl⟩))
  clear hxa hxb
  have HT0 := am (show Tab ((w.alloc (.cells #[.string a0_0, .slice A0_1 l0_1.length c0_1, .slice (some ad) l0_2.length c0_2] 38)).alloc (.cells #[.slice none 0 0] 138)) w.heap.size (w.heap.size + 1) [] from by have := Tab.new (w.alloc (.cells #[.string a0_0, .slice A0_1 l0_1.length c0_1, .slice (some ad) l0_2.length c0_2] 38)) w.heap.size (by simp); rwa [World.size_alloc] at this)
  go_loopg [31] (l.length + 1) (fun kq v31 w' => ∃ (i : Nat) (es : List S140), v31 = .int .i64 (i : Int) ∧ Aside0 (i ≤ l.length) ∧ Aside0 (l.length - i < kq) ∧ Aside0 (es ++ ents (l.drop i) i = ents l 0) ∧ Aside0 (es.length = i) ∧ Aside0 (Tab w' w.heap.size (w.heap.size + 1) es) ∧ Aside0 (Below w.heap.size w w'))
  case atStart => exact ⟨0, [], rfl, ⟨Nat.zero_le _⟩, ⟨by omega⟩, ⟨by simp⟩, ⟨rfl⟩, HT0, ⟨below_alloc (below_alloc (Below.refl _ _) _) _⟩⟩
  case round =>
   obtain ⟨i, es, rfl, IM, IK, IE, IL, IT, IB⟩ := hrel
   obtain ⟨k1, rfl⟩ : ∃ k1, gk = k1 + 1 := ⟨gk - 1, by have := IK.out; omega⟩
   by_cases c1 : i < l.length
   ·obtain ⟨ad2, A0, c0, ead2, hy0, hy1, hy2, hle, hC⟩ := at_T79 (Kd.C_below HC3.out IB.out) (i : Int) (by omega) (by omega)
    subst ead2
    rw [Int.toNat_natCast] at hy0 hy1 hy2
    have hE := IE.out
    rw [List.drop_eq_getElem_cons c1, show l[i] = rd_T79 l (i : Int) by simp [rd_T79, List.getD, List.getElem?_eq_getElem c1], ents] at hE
    have hlx := HALL.out (rd_T79 l (i : Int)) (by rw [show rd_T79 l (i : Int) = l[i] by simp [rd_T79, List.getD, List.getElem?_eq_getElem c1]]; exact List.getElem_mem c1)
    have HE := am hE
    have HLX := am hlx
    have HLE := am hle
    have HCX := am hC
    have CI := am c1
    have p3 : (0 ≤ (i : Int)) = True := eq_true (by omega)
    have q3 : ((i : Int) < (l.length : Int)) = True := eq_true (by omega)
    have q3b : decide ((i : Int) < (l.length : Int)) = true := decide_eq_true (by omega)
    have hw1 : wrap64 ((i : Int) + 1) = (i : Int) + 1 := by have := HN.out; unfold wrap64; omega
    clear c1 hE hlx hle hC IE HT0
    go_wp2_with (first | (go_at_call 50; (with_reducible refine (table_Add.calls w w.heap.size (w.heap.size + 1) A0 c0 _ (i : Int) es _ (below_alloc IB.out _) (by have := IB.out.size; simp; omega) (IT.out.below (below_alloc (Below.refl _ _) _)) (Kd.C_below HCX.out (below_alloc (Below.refl _ _) _)) HLE.out HLX.out (by have := IL.out; have := CI.out; have := HN.out; omega)).mono ?_); rintro e w2 ⟨rfl, ht, hb⟩; have HT2 := am ht; have HB2 := am hb; clear ht hb))
    go_roundg k1
    case measure => omega
    case rel => exact ⟨i + 1, _, by first | rfl | (rw [hw1]; rfl), ⟨CI.out⟩, ⟨by have := IK.out; have := CI.out; omega⟩, ⟨by rw [List.append_assoc]; exact HE.out⟩, ⟨by rw [List.length_append, IL.out]; rfl⟩, HT2, HB2⟩
   obtain rfl : i = l.length := by have := IM.out; omega
   have q3b : decide ((l.length : Int) < (l.length : Int)) = false := decide_eq_false (by omega)
   have hE := IE.out
   rw [List.drop_eq_nil_of_le (Nat.le_refl _), ents, List.append_nil] at hE
   have HES := am hE
   have HLN := am (show es.length ≤ 1000000 by have := IL.out; have := HN.out; omega)
   have HM2 := am (show matT k l2 es = some ms by rw [hE]; exact HMS.out)
   clear c1 hE IE HT0
   by_cases c5 : ms.isEmpty = true
   ·have hr := HRR.out
    rw [if_pos c5] at hr
    subst hr
    have c2b : (!ms.isEmpty) = false := by rw [c5]; rfl
    clear c5
    go_wp2_with (first | (go_at_call 51; (with_reducible refine (table_Find.calls k w.heap.size (w.heap.size + 1) es A2 c2 l2 ms _ IT.out (Kd.C_below HR2.out IB.out) HC2.out HLN.out HM2.out).mono ?_); rw [c2b]; rintro e w2 ⟨rfl, hb⟩; have HB2 := am (below_step IB.out hb); clear hb))
    go_ret
    exact ⟨rfl, HB2.out⟩
   have hr := HRR.out
   rw [if_neg c5] at hr
   subst hr
   have c2b : (!ms.isEmpty) = true := by simpa using c5
   clear c5
   go_wp2_with (first | (go_at_call 51; (with_reducible refine (table_Find.calls k w.heap.size (w.heap.size + 1) es A2 c2 l2 ms _ IT.out (Kd.C_below HR2.out IB.out) HC2.out HLN.out HM2.out).mono ?_); rw [c2b]; rintro e w2 ⟨rfl, hb⟩; have HB2 := am (below_step IB.out hb); clear hb))
   go_ret
   exact ⟨rfl, HB2.out⟩
 rw [if_neg h3] at h
 exact absurd h (by simp)
theorem feature_name.calls (k : Nat) (a0 : ByteArray) (r : Bool) (w : World) (h : feature_name.f k a0 = some r) :
  Calls Tryz.prog 64 #[.string a0] w fun e w' => e = .returned (.bool r) ∧ Drawn0 w w' := by
 have H : (feature_name.l0 k a0 0) = some r := h
 clear h
 have H' := am H
 clear H
 go_enter Tryz.func64, Tryz.ntmps64
 go_wp2
 go_loopg [3] k (fun kq v3 w' => ∃ (x3_1 : Int), v3 = .int .i64 x3_1 ∧ Aside0 (feature_name.l0 kq a0 x3_1 = some r) ∧ Aside0 (kq ≤ k) ∧ Drawn0 w w')
 case atStart => exact ⟨(0), rq, H', ⟨Nat.le_refl _⟩, by repeat (first | exact Drawn0.refl _ | apply Drawn0.step)⟩
 case round =>
  clear H'
  obtain ⟨x3_1, rfl, HA, HK1, ⟨m1, rfl⟩⟩ := hrel
  cases gk with
  | zero => exact absurd HA.out (by simp [feature_name.l0])
  | succ k1 =>
   have H := HA.out
   clear HA
   simp only [feature_name.l0] at H
   by_cases c2 : x3_1 < (a0.size : Int)
   ·rw [if_pos c2] at H
    have c2b0 : decide (x3_1 < (a0.size : Int)) = true := decide_eq_true c2
    clear c2
    by_cases c3 : 0 ≤ x3_1
    ·rw [if_pos c3] at H
     have c3b0 : decide (0 ≤ x3_1) = true := decide_eq_true c3
     clear c3
     by_cases c5 : (bt a0 x3_1) < 97
     ·rw [if_pos c5] at H
      have c5b0 : decide ((bt a0 x3_1) < 97) = true := decide_eq_true c5
      clear c5
      by_cases c6 : (bt a0 x3_1) < 48
      ·rw [if_pos c6] at H
       have c6b0 : decide ((bt a0 x3_1) < 48) = true := decide_eq_true c6
       clear c6
       by_cases c7 : (bt a0 x3_1) = 45
       ·rw [if_pos c7] at H
        have c7b0 : ((bt a0 x3_1) == 45) = true := beq_iff_eq.mpr c7
        have c7b1 : ((bt a0 x3_1) != 45) = false := bne_eq_false_iff_eq.mpr c7
        clear c7
        have H' := am H
        clear H
        have p4 : 0 ≤ (x3_1 : Int) := oq
        have q4 : x3_1 < (a0.size : Int) := oq
        have hx4 := bt_at a0 x3_1
        replace p4 := eq_true p4
        replace q4 := eq_true q4
        go_wp2
        go_roundg k1
        case measure => have := HK1.out; omega
        case rel => exact ⟨(wrap64 (x3_1 + 1)), rq, H', ⟨by have := HK1.out; omega⟩, by repeat (first | exact Drawn0.refl _ | apply Drawn0.step)⟩
       rw [if_neg c7] at H
       have c7b0 : ((bt a0 x3_1) == 45) = false := beq_eq_false_iff_ne.mpr c7
       have c7b1 : ((bt a0 x3_1) != 45) = true := bne_iff_ne.mpr c7
       obtain rfl := Option.some.inj H
       have p4 : 0 ≤ (x3_1 : Int) := oq
       have q4 : x3_1 < (a0.size : Int) := oq
       have hx4 := bt_at a0 x3_1
       replace p4 := eq_true p4
       replace q4 := eq_true q4
       go_wp2
       go_ret
       exact ⟨by first | rfl | (simp; done) | (simp [*]; done) | (congr 2; cases hq_ : a0.toList <;> rfl) | (cases hq_ : a0.toList <;> simp [hq_]), by repeat (first | exact Drawn0.refl _ | apply Drawn0.step)⟩
      rw [if_neg c6] at H
      have c6b0 : decide ((bt a0 x3_1) < 48) = false := decide_eq_false c6
      clear c6
      by_cases c8 : (bt a0 x3_1) > 57
      ·rw [if_pos c8] at H
       have c8b0 : decide (57 < (bt a0 x3_1)) = true := decide_eq_true c8
       clear c8
       by_cases c9 : (bt a0 x3_1) = 45
       ·rw [if_pos c9] at H
        have c9b0 : ((bt a0 x3_1) == 45) = true := beq_iff_eq.mpr c9
        have c9b1 : ((bt a0 x3_1) != 45) = false := bne_eq_false_iff_eq.mpr c9
        clear c9
        have H' := am H
        clear H
        have p4 : 0 ≤ (x3_1 : Int) := oq
        have q4 : x3_1 < (a0.size : Int) := oq
        have hx4 := bt_at a0 x3_1
        replace p4 := eq_true p4
        replace q4 := eq_true q4
        go_wp2
        go_roundg k1
        case measure => have := HK1.out; omega
        case rel => exact ⟨(wrap64 (x3_1 + 1)), rq, H', ⟨by have := HK1.out; omega⟩, by repeat (first | exact Drawn0.refl _ | apply Drawn0.step)⟩
       rw [if_neg c9] at H
       have c9b0 : ((bt a0 x3_1) == 45) = false := beq_eq_false_iff_ne.mpr c9
       have c9b1 : ((bt a0 x3_1) != 45) = true := bne_iff_ne.mpr c9
       obtain rfl := Option.some.inj H
       have p4 : 0 ≤ (x3_1 : Int) := oq
       have q4 : x3_1 < (a0.size : Int) := oq
       have hx4 := bt_at a0 x3_1
       replace p4 := eq_true p4
       replace q4 := eq_true q4
       go_wp2
       go_ret
       exact ⟨by first | rfl | (simp; done) | (simp [*]; done) | (congr 2; cases hq_ : a0.toList <;> rfl) | (cases hq_ : a0.toList <;> simp [hq_]), by repeat (first | exact Drawn0.refl _ | apply Drawn0.step)⟩
      rw [if_neg c8] at H
      have c8b0 : decide (57 < (bt a0 x3_1)) = false := decide_eq_false c8
      clear c8
      have H' := am H
      clear H
      have p4 : 0 ≤ (x3_1 : Int) := oq
      have q4 : x3_1 < (a0.size : Int) := oq
      have hx4 := bt_at a0 x3_1
      replace p4 := eq_true p4
      replace q4 := eq_true q4
      go_wp2
      go_roundg k1
      case measure => have := HK1.out; omega
      case rel => exact ⟨(wrap64 (x3_1 + 1)), rq, H', ⟨by have := HK1.out; omega⟩, by repeat (first | exact Drawn0.refl _ | apply Drawn0.step)⟩
     rw [if_neg c5] at H
     have c5b0 : decide ((bt a0 x3_1) < 97) = false := decide_eq_false c5
     clear c5
     by_cases c10 : (bt a0 x3_1) > 122
     ·rw [if_pos c10] at H
      have c10b0 : decide (122 < (bt a0 x3_1)) = true := decide_eq_true c10
      clear c10
      by_cases c11 : (bt a0 x3_1) < 48
      ·rw [if_pos c11] at H
       have c11b0 : decide ((bt a0 x3_1) < 48) = true := decide_eq_true c11
       clear c11
       by_cases c12 : (bt a0 x3_1) = 45
       ·rw [if_pos c12] at H
        have c12b0 : ((bt a0 x3_1) == 45) = true := beq_iff_eq.mpr c12
        have c12b1 : ((bt a0 x3_1) != 45) = false := bne_eq_false_iff_eq.mpr c12
        clear c12
        have H' := am H
        clear H
        have p4 : 0 ≤ (x3_1 : Int) := oq
        have q4 : x3_1 < (a0.size : Int) := oq
        have hx4 := bt_at a0 x3_1
        replace p4 := eq_true p4
        replace q4 := eq_true q4
        go_wp2
        go_roundg k1
        case measure => have := HK1.out; omega
        case rel => exact ⟨(wrap64 (x3_1 + 1)), rq, H', ⟨by have := HK1.out; omega⟩, by repeat (first | exact Drawn0.refl _ | apply Drawn0.step)⟩
       rw [if_neg c12] at H
       have c12b0 : ((bt a0 x3_1) == 45) = false := beq_eq_false_iff_ne.mpr c12
       have c12b1 : ((bt a0 x3_1) != 45) = true := bne_iff_ne.mpr c12
       obtain rfl := Option.some.inj H
       have p4 : 0 ≤ (x3_1 : Int) := oq
       have q4 : x3_1 < (a0.size : Int) := oq
       have hx4 := bt_at a0 x3_1
       replace p4 := eq_true p4
       replace q4 := eq_true q4
       go_wp2
       go_ret
       exact ⟨by first | rfl | (simp; done) | (simp [*]; done) | (congr 2; cases hq_ : a0.toList <;> rfl) | (cases hq_ : a0.toList <;> simp [hq_]), by repeat (first | exact Drawn0.refl _ | apply Drawn0.step)⟩
      rw [if_neg c11] at H
      have c11b0 : decide ((bt a0 x3_1) < 48) = false := decide_eq_false c11
      clear c11
      by_cases c13 : (bt a0 x3_1) > 57
      ·rw [if_pos c13] at H
       have c13b0 : decide (57 < (bt a0 x3_1)) = true := decide_eq_true c13
       clear c13
       by_cases c14 : (bt a0 x3_1) = 45
       ·rw [if_pos c14] at H
        have c14b0 : ((bt a0 x3_1) == 45) = true := beq_iff_eq.mpr c14
        have c14b1 : ((bt a0 x3_1) != 45) = false := bne_eq_false_iff_eq.mpr c14
        clear c14
        have H' := am H
        clear H
        have p4 : 0 ≤ (x3_1 : Int) := oq
        have q4 : x3_1 < (a0.size : Int) := oq
        have hx4 := bt_at a0 x3_1
        replace p4 := eq_true p4
        replace q4 := eq_true q4
        go_wp2
        go_roundg k1
        case measure => have := HK1.out; omega
        case rel => exact ⟨(wrap64 (x3_1 + 1)), rq, H', ⟨by have := HK1.out; omega⟩, by repeat (first | exact Drawn0.refl _ | apply Drawn0.step)⟩
       rw [if_neg c14] at H
       have c14b0 : ((bt a0 x3_1) == 45) = false := beq_eq_false_iff_ne.mpr c14
       have c14b1 : ((bt a0 x3_1) != 45) = true := bne_iff_ne.mpr c14
       obtain rfl := Option.some.inj H
       have p4 : 0 ≤ (x3_1 : Int) := oq
       have q4 : x3_1 < (a0.size : Int) := oq
       have hx4 := bt_at a0 x3_1
       replace p4 := eq_true p4
       replace q4 := eq_true q4
       go_wp2
       go_ret
       exact ⟨by first | rfl | (simp; done) | (simp [*]; done) | (congr 2; cases hq_ : a0.toList <;> rfl) | (cases hq_ : a0.toList <;> simp [hq_]), by repeat (first | exact Drawn0.refl _ | apply Drawn0.step)⟩
      rw [if_neg c13] at H
      have c13b0 : decide (57 < (bt a0 x3_1)) = false := decide_eq_false c13
      clear c13
      have H' := am H
      clear H
      have p4 : 0 ≤ (x3_1 : Int) := oq
      have q4 : x3_1 < (a0.size : Int) := oq
      have hx4 := bt_at a0 x3_1
      replace p4 := eq_true p4
      replace q4 := eq_true q4
      go_wp2
      go_roundg k1
      case measure => have := HK1.out; omega
      case rel => exact ⟨(wrap64 (x3_1 + 1)), rq, H', ⟨by have := HK1.out; omega⟩, by repeat (first | exact Drawn0.refl _ | apply Drawn0.step)⟩
     rw [if_neg c10] at H
     have c10b0 : decide (122 < (bt a0 x3_1)) = false := decide_eq_false c10
     clear c10
     have H' := am H
     clear H
     have p4 : 0 ≤ (x3_1 : Int) := oq
     have q4 : x3_1 < (a0.size : Int) := oq
     have hx4 := bt_at a0 x3_1
     replace p4 := eq_true p4
     replace q4 := eq_true q4
     go_wp2
     go_roundg k1
     case measure => have := HK1.out; omega
     case rel => exact ⟨(wrap64 (x3_1 + 1)), rq, H', ⟨by have := HK1.out; omega⟩, by repeat (first | exact Drawn0.refl _ | apply Drawn0.step)⟩
    rw [if_neg c3] at H
    exact absurd H (by simp)
   rw [if_neg c2] at H
   have c2b0 : decide (x3_1 < (a0.size : Int)) = false := decide_eq_false c2
   clear c2
   obtain rfl := Option.some.inj H
   go_wp2
   go_ret
   exact ⟨by first | rfl | (simp; done) | (simp [*]; done) | (congr 2; cases hq_ : a0.toList <;> rfl) | (cases hq_ : a0.toList <;> simp [hq_]), by repeat (first | exact Drawn0.refl _ | apply Drawn0.step)⟩
theorem slices_Index_string_string.calls (k : Nat) (A0 : Option Addr) (c0 : Nat) (l0 : List ByteArray) (a1 : ByteArray) (r : Int) (w : World) (hr0 : Kd.C Kd.string w A0 l0.length l0) (hc0 : l0.length ≤ c0) (h : slices_Index_string_string.f k l0 a1 = some r) :
  Calls Tryz.prog 46 #[.slice A0 l0.length c0, .string a1] w fun e w' => e = .returned (.int .i64 r) ∧ Drawn0 w w' := by
 have HR0 := am hr0
 have HC0 := am hc0
 clear hr0 hc0
 have H : (slices_Index_string_string.l0 k l0 a1 (l0.length : Int) 0) = some r := h
 clear h
 have H' := am H
 clear H
 go_enter Tryz.func46, Tryz.ntmps46
 go_wp2
 go_loopg [8] k (fun kq v8 w' => ∃ (x8_1 : Int), v8 = .int .i64 x8_1 ∧ Aside0 (slices_Index_string_string.l0 kq l0 a1 (l0.length : Int) x8_1 = some r) ∧ Aside0 (kq ≤ k) ∧ Drawn0 w w')
 case atStart => exact ⟨(0), rq, H', ⟨Nat.le_refl _⟩, by repeat (first | exact Drawn0.refl _ | apply Drawn0.step)⟩
 case round =>
  clear H'
  obtain ⟨x8_1, rfl, HA, HK1, ⟨m1, rfl⟩⟩ := hrel
  cases gk with
  | zero => exact absurd HA.out (by simp [slices_Index_string_string.l0])
  | succ k1 =>
   have H := HA.out
   clear HA
   simp only [slices_Index_string_string.l0] at H
   by_cases c3 : x8_1 < (l0.length : Int)
   ·rw [if_pos c3] at H
    have c3b0 : decide (x8_1 < (l0.length : Int)) = true := decide_eq_true c3
    clear c3
    by_cases c4 : 0 ≤ x8_1
    ·rw [if_pos c4] at H
     have c4b0 : decide (0 ≤ x8_1) = true := decide_eq_true c4
     clear c4
     by_cases c5 : x8_1 < (l0.length : Int)
     ·rw [if_pos c5] at H
      have c5b0 : decide (x8_1 < (l0.length : Int)) = true := decide_eq_true c5
      clear c5
      by_cases c6 : a1.toList = (rdOf ByteArray.empty l0 x8_1).toList
      ·rw [if_pos c6] at H
       have c6b0 : (a1.toList == (rdOf ByteArray.empty l0 x8_1).toList) = true := beq_iff_eq.mpr c6
       have c6b1 : (a1.toList != (rdOf ByteArray.empty l0 x8_1).toList) = false := bne_eq_false_iff_eq.mpr c6
       clear c6
       obtain rfl := Option.some.inj H
       have p111 : 0 ≤ (x8_1 : Int) := oq
       have q111 : x8_1 < (l0.length : Int) := oq
       obtain ⟨ad111, e111, hx111_0⟩ := Kd.at_string HR0.out x8_1 p111 q111
       cases e111
       replace p111 := eq_true p111
       replace q111 := eq_true q111
       go_wp2
       go_ret
       exact ⟨by first | rfl | (simp; done) | (simp [*]; done), by repeat (first | exact Drawn0.refl _ | apply Drawn0.step)⟩
      rw [if_neg c6] at H
      have c6b0 : (a1.toList == (rdOf ByteArray.empty l0 x8_1).toList) = false := beq_eq_false_iff_ne.mpr c6
      have c6b1 : (a1.toList != (rdOf ByteArray.empty l0 x8_1).toList) = true := bne_iff_ne.mpr c6
      have H' := am H
      clear H
      have p111 : 0 ≤ (x8_1 : Int) := oq
      have q111 : x8_1 < (l0.length : Int) := oq
      obtain ⟨ad111, e111, hx111_0⟩ := Kd.at_string HR0.out x8_1 p111 q111
      cases e111
      replace p111 := eq_true p111
      replace q111 := eq_true q111
      go_wp2
      go_roundg k1
      case measure => have := HK1.out; omega
      case rel => exact ⟨(wrap64 (x8_1 + 1)), rq, H', ⟨by have := HK1.out; omega⟩, by repeat (first | exact Drawn0.refl _ | apply Drawn0.step)⟩
     rw [if_neg c5] at H
     exact absurd H (by simp)
    rw [if_neg c4] at H
    exact absurd H (by simp)
   rw [if_neg c3] at H
   have c3b0 : decide (x8_1 < (l0.length : Int)) = false := decide_eq_false c3
   clear c3
   obtain rfl := Option.some.inj H
   go_wp2
   go_ret
   exact ⟨by first | rfl | (simp; done) | (simp [*]; done), by repeat (first | exact Drawn0.refl _ | apply Drawn0.step)⟩
theorem slices_Contains_string_string.calls (k : Nat) (A0 : Option Addr) (c0 : Nat) (l0 : List ByteArray) (a1 : ByteArray) (r : Bool) (w : World) (hr0 : Kd.C Kd.string w A0 l0.length l0) (hc0 : l0.length ≤ c0) (h : slices_Contains_string_string.f k l0 a1 = some r) :
  Calls Tryz.prog 65 #[.slice A0 l0.length c0, .string a1] w fun e w' => e = .returned (.bool r) ∧ Drawn0 w w' := by
 have HR0 := am hr0
 have HC0 := am hc0
 clear hr0 hc0
 have H : ((slices_Index_string_string.f k l0 a1).bind fun t112 => (some (decide (t112 ≥ 0)))) = some r := h
 clear h
 replace H := Option.bind_eq_some_iff.mp H
 obtain ⟨t112, A30, H⟩ := H
 (try dsimp only at H)
 have A3 := am A30
 clear A30
 obtain rfl := Option.some.inj H
 go_enter Tryz.func65, Tryz.ntmps65
 go_wp2_with (first | ((with_reducible refine gate_callee (f := 46) rfl ?_); refine gL (some 7) Tryz.func46 #[.slice A0 l0.length c0, .string a1] ?_; (with_reducible refine (slices_Index_string_string.calls k _ _ l0 a1 t112 _ (cd HR0) HC0.out A3.out).mono ?_); rintro e w' ⟨rfl, ⟨nd, rfl⟩⟩; refine ⟨_, rfl, ?_⟩))
 go_ret
 exact ⟨by first | rfl | (simp; done) | (simp [*]; done), by repeat (first | exact Drawn0.refl _ | apply Drawn0.step)⟩
theorem feature_dimensions.calls (k : Nat) (A0 : Option Addr) (c0 : Nat) (l0 : List (S55)) (r : Bool) (w : World) (hr0 : Kd.C k55 w A0 l0.length l0) (hc0 : l0.length ≤ c0) (h : feature_dimensions.f k l0 = some r) :
  Calls Tryz.prog 38 #[.slice A0 l0.length c0] w fun e w' => e = .returned (.bool r) ∧ Below w.heap.size w w' := by
 have hu55 := Tryz.underlying55
 have HR0 := am hr0
 have HC0 := am hc0
 clear hr0 hc0
 have HB := am (Below.refl w.heap.size w)
 have H : (if (l0.length : Int) > 4 then (some false) else (feature_dimensions.l0 k l0 l0 (l0.length : Int) 0)) = some r := h
 clear h
 by_cases c2 : (l0.length : Int) > 4
 ·rw [if_pos c2] at H
  have c2b0 : decide (4 < (l0.length : Int)) = true := decide_eq_true c2
  have c2b1 : decide (4 < l0.length) = true := decide_eq_true (by omega)
  clear c2
  obtain rfl := Option.some.inj H
  go_enter Tryz.func38, Tryz.ntmps38
  go_wp2
  go_ret
  exact ⟨eq', bq⟩
 rw [if_neg c2] at H
 have c2b0 : decide (4 < (l0.length : Int)) = false := decide_eq_false c2
 have c2b1 : decide (4 < l0.length) = false := decide_eq_false (by omega)
 clear c2
 have H' := am H
 clear H
 go_enter Tryz.func38, Tryz.ntmps38
 go_wp2
 go_loopg [14] k (fun kq v14 w' => ∃ (x14_1 : Int), v14 = .int .i64 x14_1 ∧ Aside0 (feature_dimensions.l0 kq l0 l0 (l0.length : Int) x14_1 = some r) ∧ Aside0 (kq ≤ k) ∧ Aside0 (Below w.heap.size w w'))
 case atStart => exact ⟨(0), rq, H', ⟨Nat.le_refl _⟩, ⟨bq⟩⟩
 case round =>
  clear H'
  clear c2b0 c2b1
  obtain ⟨x14_1, rfl, HA, HK1, HB⟩ := hrel
  cases gk with
  | zero => exact absurd HA.out (by simp [feature_dimensions.l0])
  | succ k1 =>
   have H := HA.out
   clear HA
   simp only [feature_dimensions.l0] at H
   by_cases c3 : x14_1 < (l0.length : Int)
   ·rw [if_pos c3] at H
    have c3b0 : decide (x14_1 < (l0.length : Int)) = true := decide_eq_true c3
    clear c3
    by_cases c4 : 0 ≤ x14_1
    ·rw [if_pos c4] at H
     have c4b0 : decide (0 ≤ x14_1) = true := decide_eq_true c4
     clear c4
     by_cases c5 : x14_1 < (l0.length : Int)
     ·rw [if_pos c5] at H
      have c5b0 : decide (x14_1 < (l0.length : Int)) = true := decide_eq_true c5
      clear c5
      have HC6 := am H
      clear H
      have p113 : 0 ≤ (x14_1 : Int) := oq
      have q113 : x14_1 < (l0.length : Int) := oq
      obtain ⟨ad113, A113_1, c113_1, e113, hx113_0, hx113_1, hl113_1, hi113_1⟩ := at_T55 HR0.out x14_1 p113 q113
      cases e113
      replace hx113_0 := cw hx113_0
      replace hx113_1 := cw hx113_1
      have HR113_1 := am hi113_1
      have HC113_1 := am hl113_1
      clear hi113_1 hl113_1
      replace p113 := eq_true p113
      replace q113 := eq_true q113
      go_upto_region 6 with (first | ((with_reducible refine gate_dst (N := 4) rfl ?_); (try (refine gate_guard (by rfl) ?_; dsimp only)); refine bx 4 #[.string (⟨#[]⟩ : ByteArray), .slice none 0 0] 55 ?_; intro gb114 hg w7 hbox hb; have BK114 := am hbox; have GE114 := sz hg; replace HB := bs hb; clear hb hbox hg; obtain ⟨zaa, zab, zac, zad⟩ := bc2 BK114))
      (try simp only [Act.put, List.setIfInBounds_toArray, List.set_cons_zero, List.set_cons_succ])
      go_cut [34] (fun v34 wc => ∃ (kq : Nat) (x34_5 : Bool), v34 = .bool x34_5 ∧ Aside0 (feature_dimensions.j1 kq l0 x14_1 l0 (l0.length : Int) x14_1 x34_5 ((rd_T55 l0 x14_1).f0) ((rd_T55 l0 x14_1).f1) = some r) ∧ Aside0 (kq ≤ k1) ∧ Aside0 (wc.heap[gb114]? = some (.cells #[.string ((rd_T55 l0 x14_1).f0), (.slice A113_1 ((rd_T55 l0 x14_1).f1).length c113_1)] 55 (0, 0))) ∧ Aside0 (Below w.heap.size w wc))
      case first =>
       have H := HC6.out
       clear HC6
       replace H := Option.bind_eq_some_iff.mp H
       obtain ⟨t115, A90, H⟩ := H
       (try dsimp only at H)
       have A9 := am A90
       clear A90
       by_cases c10 : t115 = true
       ·subst c10
        rw [if_pos rfl] at H
        by_cases c11 : (((rd_T55 l0 x14_1).f1).length : Int) < 1
        ·rw [if_pos c11] at H
         have c11b0 : decide ((((rd_T55 l0 x14_1).f1).length : Int) < 1) = true := decide_eq_true c11
         have c11b1 : decide (((rd_T55 l0 x14_1).f1).length < 1) = true := decide_eq_true (by omega)
         clear c11
         (first | rw [c11b0] | (simp only [i64_w, i32_w]; rw [c11b0]) | skip)
         have H' := am H
         clear H
         obtain ⟨zae, zaf, zag, zah⟩ := bc2 BK114
         go_wp2_with (first | ((with_reducible refine gate_callee (f := 64) rfl ?_); refine gL (some 21) Tryz.func64 #[.string ((rd_T55 l0 x14_1).f0)] ?_; (with_reducible refine (feature_name.calls k1 ((rd_T55 l0 x14_1).f0) true _ A9.out).mono ?_); rintro e w' ⟨rfl, ⟨nd, rfl⟩⟩; refine ⟨_, rfl, ?_⟩))
         go_meet
         case rel => exact ⟨_, (true), rq, H', ⟨by have := HK1.out; first | omega | exact Nat.le_refl _⟩, ⟨bp BK114⟩, ⟨bq⟩⟩
        rw [if_neg c11] at H
        have c11b0 : decide ((((rd_T55 l0 x14_1).f1).length : Int) < 1) = false := decide_eq_false c11
        have c11b1 : decide (((rd_T55 l0 x14_1).f1).length < 1) = false := decide_eq_false (by omega)
        clear c11
        (first | rw [c11b0] | (simp only [i64_w, i32_w]; rw [c11b0]) | skip)
        have H' := am H
        clear H
        obtain ⟨zai, zaj, zak, zal⟩ := bc2 BK114
        go_wp2_with (first | ((with_reducible refine gate_callee (f := 64) rfl ?_); refine gL (some 21) Tryz.func64 #[.string ((rd_T55 l0 x14_1).f0)] ?_; (with_reducible refine (feature_name.calls k1 ((rd_T55 l0 x14_1).f0) true _ A9.out).mono ?_); rintro e w' ⟨rfl, ⟨nd, rfl⟩⟩; refine ⟨_, rfl, ?_⟩))
        go_meet
        case rel => exact ⟨_, (decide ((((rd_T55 l0 x14_1).f1).length : Int) > 8)), rq, H', ⟨by have := HK1.out; first | omega | exact Nat.le_refl _⟩, ⟨bp BK114⟩, ⟨bq⟩⟩
       replace c10 := Bool.eq_false_iff.mpr c10
       subst c10
       rw [if_neg nf] at H
       have H' := am H
       clear H
       obtain ⟨zam, zan, zao, zap⟩ := bc2 BK114
       go_wp2_with (first | ((with_reducible refine gate_callee (f := 64) rfl ?_); refine gL (some 21) Tryz.func64 #[.string ((rd_T55 l0 x14_1).f0)] ?_; (with_reducible refine (feature_name.calls k1 ((rd_T55 l0 x14_1).f0) false _ A9.out).mono ?_); rintro e w' ⟨rfl, ⟨nd, rfl⟩⟩; refine ⟨_, rfl, ?_⟩))
       go_meet
       case rel => exact ⟨_, (true), rq, H', ⟨by have := HK1.out; first | omega | exact Nat.le_refl _⟩, ⟨bp BK114⟩, ⟨bq⟩⟩
      case rest =>
       clear HC6 c3b0 c4b0 c5b0 zaa zab zac zad hx113_0 hx113_1 p113 q113
       obtain ⟨kq, x34_5, rfl, HA, HJ5, BK114, HB⟩ := hcut
       cases kq with
       | zero => exact absurd HA.out (by simp [feature_dimensions.j1])
       | succ kj5 =>
        have H := HA.out
        clear HA
        simp only [feature_dimensions.j1] at H
        by_cases c15 : x34_5 = true
        ·subst c15
         rw [if_pos rfl] at H
         obtain rfl := Option.some.inj H
         go_wp2
         go_ret
         exact ⟨eq', bq⟩
        replace c15 := Bool.eq_false_iff.mpr c15
        subst c15
        rw [if_neg nf] at H
        have H' := am H
        clear H
        obtain ⟨zaq, zar, zas, zat⟩ := bc2 BK114
        go_wp2
        go_loopg [38] kj5 (fun kq v38 w' => ∃ (x38_3 : Int), v38 = .int .i64 x38_3 ∧ Aside0 (feature_dimensions.l1 kq l0 x14_1 l0 (l0.length : Int) x14_1 ((rd_T55 l0 x14_1).f1) (((rd_T55 l0 x14_1).f1).length : Int) x38_3 ((rd_T55 l0 x14_1).f0) ((rd_T55 l0 x14_1).f1) = some r) ∧ Aside0 (kq ≤ kj5) ∧ Aside0 (w'.heap[gb114]? = some (.cells #[.string ((rd_T55 l0 x14_1).f0), (.slice A113_1 ((rd_T55 l0 x14_1).f1).length c113_1)] 55 (0, 0))) ∧ Aside0 (Below w.heap.size w w'))
        case atStart => exact ⟨(0), rq, H', ⟨Nat.le_refl _⟩, ⟨bd BK114⟩, ⟨bq⟩⟩
        case round =>
         clear H'
         clear zaq zar zas zat
         obtain ⟨x38_3, rfl, HA, HK3, BK114, HB⟩ := hrel
         cases gk with
         | zero => exact absurd HA.out (by simp [feature_dimensions.l1])
         | succ k3 =>
          have H := HA.out
          clear HA
          simp only [feature_dimensions.l1] at H
          by_cases c17 : x38_3 < (((rd_T55 l0 x14_1).f1).length : Int)
          ·rw [if_pos c17] at H
           have c17b0 : decide (x38_3 < (((rd_T55 l0 x14_1).f1).length : Int)) = true := decide_eq_true c17
           clear c17
           by_cases c18 : 0 ≤ x38_3
           ·rw [if_pos c18] at H
            have c18b0 : decide (0 ≤ x38_3) = true := decide_eq_true c18
            clear c18
            by_cases c19 : x38_3 < (((rd_T55 l0 x14_1).f1).length : Int)
            ·rw [if_pos c19] at H
             have c19b0 : decide (x38_3 < (((rd_T55 l0 x14_1).f1).length : Int)) = true := decide_eq_true c19
             clear c19
             replace H := Option.bind_eq_some_iff.mp H
             obtain ⟨t117, A200, H⟩ := H
             (try dsimp only at H)
             have A20 := am A200
             clear A200
             by_cases c21 : t117 = true
             ·subst c21
              rw [if_pos rfl] at H
              have c22b0 := eq_true (oq : 0 ≤ x38_3)
              by_cases c23 : x38_3 ≤ (((rd_T55 l0 x14_1).f1).length : Int)
              ·rw [if_pos c23] at H
               have c23b0 := eq_true c23
               have c23b1 : decide (x38_3 ≤ (((rd_T55 l0 x14_1).f1).length : Int)) = true := decide_eq_true c23
               clear c23
               replace H := Option.bind_eq_some_iff.mp H
               obtain ⟨t119, A240, H⟩ := H
               (try dsimp only at H)
               have A24 := am A240
               clear A240
               by_cases c25 : t119 = true
               ·subst c25
                rw [if_pos rfl] at H
                obtain rfl := Option.some.inj H
                have p116 : 0 ≤ (x38_3 : Int) := oq
                have q116 : x38_3 < (((rd_T55 l0 x14_1).f1).length : Int) := oq
                obtain ⟨ad116, e116, hx116_0⟩ := Kd.at_string HR113_1.out x38_3 p116 q116
                cases e116
                replace hx116_0 := cw hx116_0
                replace p116 := eq_true p116
                replace q116 := eq_true q116
                go_wp2_with (first | ((with_reducible refine gate_callee (f := 64) rfl ?_); refine gL (some 44) Tryz.func64 #[.string (rdOf ByteArray.empty ((rd_T55 l0 x14_1).f1) x38_3)] ?_; (with_reducible refine (feature_name.calls k3 (rdOf ByteArray.empty ((rd_T55 l0 x14_1).f1) x38_3) true _ A20.out).mono ?_); rintro e w' ⟨rfl, ⟨nd, rfl⟩⟩; refine ⟨_, rfl, ?_⟩; obtain ⟨zau, zav, zaw, zax⟩ := bc2 BK114; obtain ⟨i027, hi027, _, hsz27, _⟩ := info_parts info9; obtain ⟨hcut27, hA27, hC27⟩ := print_take_of (P := Tryz.prog) Value.string (⟨#[]⟩ : ByteArray) 49 9 .i64 Tryz.underlying49 hi027 hsz27 (some ad116) c113_1 ((rd_T55 l0 x14_1).f1) x38_3 (oq) (oq) HC113_1.out; have HR118 := am (Kd.C_of_reads (h1 := fun _ => rfl) (hA27 _ (Kd.reads_of_C HR113_1.out))); have HC118 := am hC27; clear hA27 hC27 hi027 hsz27) | (go_at_call 65; (refine calls_of_args (congrArg (fun n_ => #[Value.slice (some ad116) n_ c113_1, Value.string (rdOf ByteArray.empty ((rd_T55 l0 x14_1).f1) x38_3)]) (show (x38_3 : Int).toNat = ((((rd_T55 l0 x14_1).f1)).take (x38_3 : Int).toNat).length from by have h1_ := of_eq_true p116; have h2_ := of_eq_true q116; rw [List.length_take]; omega)) ?_); (with_reducible refine (slices_Contains_string_string.calls k3 _ _ (((rd_T55 l0 x14_1).f1).take (x38_3 : Int).toNat) (rdOf ByteArray.empty ((rd_T55 l0 x14_1).f1) x38_3) true _ ?side1 ?side2 A24.out).mono ?_); (case side1 => repeat (first | exact (Kd.C_below HR118.out bq) | (with_reducible refine Kd.C_alloc ?_ _) | (with_reducible refine Kd.C_drewN ?_ _) | (with_reducible refine Kd.C_drew ?_))); (case side2 => exact HC118.out); rintro e w' ⟨rfl, ⟨nd, rfl⟩⟩))
                go_ret
                exact ⟨eq', bq⟩
               replace c25 := Bool.eq_false_iff.mpr c25
               subst c25
               rw [if_neg nf] at H
               have H' := am H
               clear H
               have p116 : 0 ≤ (x38_3 : Int) := oq
               have q116 : x38_3 < (((rd_T55 l0 x14_1).f1).length : Int) := oq
               obtain ⟨ad116, e116, hx116_0⟩ := Kd.at_string HR113_1.out x38_3 p116 q116
               cases e116
               replace hx116_0 := cw hx116_0
               replace p116 := eq_true p116
               replace q116 := eq_true q116
               go_wp2_with (first | ((with_reducible refine gate_callee (f := 64) rfl ?_); refine gL (some 44) Tryz.func64 #[.string (rdOf ByteArray.empty ((rd_T55 l0 x14_1).f1) x38_3)] ?_; (with_reducible refine (feature_name.calls k3 (rdOf ByteArray.empty ((rd_T55 l0 x14_1).f1) x38_3) true _ A20.out).mono ?_); rintro e w' ⟨rfl, ⟨nd, rfl⟩⟩; refine ⟨_, rfl, ?_⟩; obtain ⟨zay, zaz, zba, zbb⟩ := bc2 BK114; obtain ⟨i029, hi029, _, hsz29, _⟩ := info_parts info9; obtain ⟨hcut29, hA29, hC29⟩ := print_take_of (P := Tryz.prog) Value.string (⟨#[]⟩ : ByteArray) 49 9 .i64 Tryz.underlying49 hi029 hsz29 (some ad116) c113_1 ((rd_T55 l0 x14_1).f1) x38_3 (oq) (oq) HC113_1.out; have HR118 := am (Kd.C_of_reads (h1 := fun _ => rfl) (hA29 _ (Kd.reads_of_C HR113_1.out))); have HC118 := am hC29; clear hA29 hC29 hi029 hsz29) | (go_at_call 65; (refine calls_of_args (congrArg (fun n_ => #[Value.slice (some ad116) n_ c113_1, Value.string (rdOf ByteArray.empty ((rd_T55 l0 x14_1).f1) x38_3)]) (show (x38_3 : Int).toNat = ((((rd_T55 l0 x14_1).f1)).take (x38_3 : Int).toNat).length from by have h1_ := of_eq_true p116; have h2_ := of_eq_true q116; rw [List.length_take]; omega)) ?_); (with_reducible refine (slices_Contains_string_string.calls k3 _ _ (((rd_T55 l0 x14_1).f1).take (x38_3 : Int).toNat) (rdOf ByteArray.empty ((rd_T55 l0 x14_1).f1) x38_3) false _ ?side1 ?side2 A24.out).mono ?_); (case side1 => repeat (first | exact (Kd.C_below HR118.out bq) | (with_reducible refine Kd.C_alloc ?_ _) | (with_reducible refine Kd.C_drewN ?_ _) | (with_reducible refine Kd.C_drew ?_))); (case side2 => exact HC118.out); rintro e w' ⟨rfl, ⟨nd, rfl⟩⟩))
               go_roundg k3
               case measure => have := HK1.out; have := HJ5.out; have := HK3.out; omega
               case rel => exact ⟨(wrap64 (x38_3 + 1)), rq, H', ⟨by have := HK1.out; have := HJ5.out; have := HK3.out; omega⟩, ⟨bd BK114⟩, ⟨bq⟩⟩
              rw [if_neg c23] at H
              exact absurd H (by simp)
             replace c21 := Bool.eq_false_iff.mpr c21
             subst c21
             rw [if_neg nf] at H
             obtain rfl := Option.some.inj H
             have p116 : 0 ≤ (x38_3 : Int) := oq
             have q116 : x38_3 < (((rd_T55 l0 x14_1).f1).length : Int) := oq
             obtain ⟨ad116, e116, hx116_0⟩ := Kd.at_string HR113_1.out x38_3 p116 q116
             cases e116
             replace hx116_0 := cw hx116_0
             replace p116 := eq_true p116
             replace q116 := eq_true q116
             go_wp2_with (first | ((with_reducible refine gate_callee (f := 64) rfl ?_); refine gL (some 44) Tryz.func64 #[.string (rdOf ByteArray.empty ((rd_T55 l0 x14_1).f1) x38_3)] ?_; (with_reducible refine (feature_name.calls k3 (rdOf ByteArray.empty ((rd_T55 l0 x14_1).f1) x38_3) false _ A20.out).mono ?_); rintro e w' ⟨rfl, ⟨nd, rfl⟩⟩; refine ⟨_, rfl, ?_⟩))
             go_ret
             exact ⟨eq', bq⟩
            rw [if_neg c19] at H
            exact absurd H (by simp)
           rw [if_neg c18] at H
           exact absurd H (by simp)
          rw [if_neg c17] at H
          have c17b0 : decide (x38_3 < (((rd_T55 l0 x14_1).f1).length : Int)) = false := decide_eq_false c17
          clear c17
          by_cases c30 : 0 ≤ x14_1
          ·rw [if_pos c30] at H
           have c30b0 := eq_true c30
           have c30b1 : decide (0 ≤ x14_1) = true := decide_eq_true c30
           clear c30
           by_cases c31 : x14_1 ≤ (l0.length : Int)
           ·rw [if_pos c31] at H
            have c31b0 := eq_true c31
            have c31b1 : decide (x14_1 ≤ (l0.length : Int)) = true := decide_eq_true c31
            clear c31
            obtain ⟨y120, hy120⟩ : ∃ y_ : List (S55), y_ = (l0.take (x14_1 : Int).toNat) := ⟨_, rfl⟩
            replace H : (feature_dimensions.l2 k3 l0 l0 (l0.length : Int) x14_1 y120 (y120.length : Int) 0 ((rd_T55 l0 x14_1).f0) ((rd_T55 l0 x14_1).f1)) = some r := by first | (rw [hy120]; with_reducible exact H) | (have H2_ := (Option.bind_some _ _).symm.trans H; rw [hy120]; with_reducible exact H2_) | (have H2_ := (Option.bind_some _ _).symm.trans H; with_reducible exact H2_) | with_reducible exact H | (rw [hy120]; exact H) | exact H
            have Ny120 := am hy120
            clear hy120
            have H' := am H
            clear H
            have q32 : (x14_1 : Int) ≤ ((l0.length : Int) : Int) := oq
            obtain ⟨i032, hi032, _, hsz32, _⟩ := info_parts info55
            have hroom32 : l0.length ≤ c0 := HC0.out
            have hC32 : Kd.C k55 _ (some ad113) l0.length l0 := HR0.out
            have hcut32 := cut_to (P := Tryz.prog) 35 55 .i64 Tryz.underlying35 hi032 (some ad113) l0.length c0 x14_1 (oq) q32 hroom32
            have hr32 := Kd.C_take (m := (x14_1 : Int).toNat) hC32 (by omega)
            have hy32 : y120.length = (x14_1 : Int).toNat := (by rw [Ny120.out, List.length_take]; omega)
            rw [← Ny120.out] at hr32
            rw [← hy32] at hcut32
            have HR123 := am hr32
            have HC123 := am (show y120.length ≤ c0 from by omega)
            clear hr32 hC32 hroom32 hi032 hsz32
            have KY32 := am hy32
            clear hy32
            replace q32 := eq_true q32
            go_wp2
            go_loopg [59] k3 (fun kq v59 w' => ∃ (x59_4 : Int), v59 = .int .i64 x59_4 ∧ Aside0 (feature_dimensions.l2 kq l0 l0 (l0.length : Int) x14_1 y120 (y120.length : Int) x59_4 ((rd_T55 l0 x14_1).f0) ((rd_T55 l0 x14_1).f1) = some r) ∧ Aside0 (kq ≤ k3) ∧ Aside0 (w'.heap[gb114]? = some (.cells #[.string ((rd_T55 l0 x14_1).f0), (.slice A113_1 ((rd_T55 l0 x14_1).f1).length c113_1)] 55 (0, 0))) ∧ Aside0 (Below w.heap.size w w'))
            case atStart => exact ⟨(0), rq, H', ⟨Nat.le_refl _⟩, ⟨bd BK114⟩, ⟨bq⟩⟩
            case round =>
             clear H'
             clear c17b0 c30b0 c30b1 c31b0 c31b1 q32
             obtain ⟨x59_4, rfl, HA, HK4, BK114, HB⟩ := hrel
             cases gk with
             | zero => exact absurd HA.out (by simp [feature_dimensions.l2])
             | succ k4 =>
              have H := HA.out
              clear HA
              simp only [feature_dimensions.l2] at H
              by_cases c33 : x59_4 < (y120.length : Int)
              ·rw [if_pos c33] at H
               have c33b0 : decide (x59_4 < (y120.length : Int)) = true := decide_eq_true c33
               clear c33
               by_cases c34 : 0 ≤ x59_4
               ·rw [if_pos c34] at H
                have c34b0 : decide (0 ≤ x59_4) = true := decide_eq_true c34
                clear c34
                by_cases c35 : x59_4 < (y120.length : Int)
                ·rw [if_pos c35] at H
                 have c35b0 : decide (x59_4 < (y120.length : Int)) = true := decide_eq_true c35
                 clear c35
                 by_cases c36 : ((rd_T55 y120 x59_4).f0).toList = ((rd_T55 l0 x14_1).f0).toList
                 ·rw [if_pos c36] at H
                  have c36b0 : (((rd_T55 y120 x59_4).f0).toList == ((rd_T55 l0 x14_1).f0).toList) = true := beq_iff_eq.mpr c36
                  have c36b1 : (((rd_T55 y120 x59_4).f0).toList != ((rd_T55 l0 x14_1).f0).toList) = false := bne_eq_false_iff_eq.mpr c36
                  clear c36
                  obtain rfl := Option.some.inj H
                  have p124 : 0 ≤ (x59_4 : Int) := oq
                  have q124 : x59_4 < (y120.length : Int) := oq
                  obtain ⟨ad124, A124_1, c124_1, e124, hx124_0, hx124_1, hl124_1, hi124_1⟩ := at_T55 HR123.out x59_4 p124 q124
                  obtain rfl : ad113 = ad124 := (by injection e124)
                  replace hx124_0 := cw hx124_0
                  replace hx124_1 := cw hx124_1
                  have HR124_1 := am hi124_1
                  have HC124_1 := am hl124_1
                  clear hi124_1 hl124_1
                  replace p124 := eq_true p124
                  replace q124 := eq_true q124
                  go_wp2_with (first | ((with_reducible refine gate_dst (N := 8) rfl ?_); (try (refine gate_guard (by rfl) ?_; dsimp only)); refine bx 8 #[.string (⟨#[]⟩ : ByteArray), .slice none 0 0] 55 ?_; intro gb125 hg w37 hbox hb; have BK125 := am hbox; have GE125 := sz hg; have NB114_125 := nl hg BK114; have NB125_114 := ng hg BK114; replace BK114 := bk BK114 hb; replace HB := bs hb; clear hb hbox hg; have hnb38 := NB125_114.out; have hnc38 := NB114_125.out; obtain ⟨zbc, zbd, zbe, zbf⟩ := bc2 BK125; obtain ⟨zbg, zbh, zbi, zbj⟩ := bc2 BK114))
                  go_ret
                  exact ⟨eq', bq⟩
                 rw [if_neg c36] at H
                 have c36b0 : (((rd_T55 y120 x59_4).f0).toList == ((rd_T55 l0 x14_1).f0).toList) = false := beq_eq_false_iff_ne.mpr c36
                 have c36b1 : (((rd_T55 y120 x59_4).f0).toList != ((rd_T55 l0 x14_1).f0).toList) = true := bne_iff_ne.mpr c36
                 have H' := am H
                 clear H
                 have p124 : 0 ≤ (x59_4 : Int) := oq
                 have q124 : x59_4 < (y120.length : Int) := oq
                 obtain ⟨ad124, A124_1, c124_1, e124, hx124_0, hx124_1, hl124_1, hi124_1⟩ := at_T55 HR123.out x59_4 p124 q124
                 obtain rfl : ad113 = ad124 := (by injection e124)
                 replace hx124_0 := cw hx124_0
                 replace hx124_1 := cw hx124_1
                 have HR124_1 := am hi124_1
                 have HC124_1 := am hl124_1
                 clear hi124_1 hl124_1
                 replace p124 := eq_true p124
                 replace q124 := eq_true q124
                 go_wp2_with (first | ((with_reducible refine gate_dst (N := 8) rfl ?_); (try (refine gate_guard (by rfl) ?_; dsimp only)); refine bx 8 #[.string (⟨#[]⟩ : ByteArray), .slice none 0 0] 55 ?_; intro gb125 hg w41 hbox hb; have BK125 := am hbox; have GE125 := sz hg; have NB114_125 := nl hg BK114; have NB125_114 := ng hg BK114; replace BK114 := bk BK114 hb; replace HB := bs hb; clear hb hbox hg; have hnb42 := NB125_114.out; have hnc42 := NB114_125.out; obtain ⟨zbk, zbl, zbm, zbn⟩ := bc2 BK125; obtain ⟨zbo, zbp, zbq, zbr⟩ := bc2 BK114))
                 go_roundg k4
                 case measure => have := HK1.out; have := HJ5.out; have := HK3.out; have := HK4.out; omega
                 case rel => exact ⟨(wrap64 (x59_4 + 1)), rq, H', ⟨by have := HK1.out; have := HJ5.out; have := HK3.out; have := HK4.out; omega⟩, ⟨bf BK114⟩, ⟨bq⟩⟩
                rw [if_neg c35] at H
                exact absurd H (by simp)
               rw [if_neg c34] at H
               exact absurd H (by simp)
              rw [if_neg c33] at H
              have c33b0 : decide (x59_4 < (y120.length : Int)) = false := decide_eq_false c33
              clear c33
              have H' := am H
              clear H
              go_wp2
              go_roundg k4
              case measure => have := HK1.out; have := HJ5.out; have := HK3.out; have := HK4.out; omega
              case rel => exact ⟨(wrap64 (x14_1 + 1)), rq, H', ⟨by have := HK1.out; have := HJ5.out; have := HK3.out; have := HK4.out; omega⟩, ⟨bq⟩⟩
           rw [if_neg c31] at H
           exact absurd H (by simp)
          rw [if_neg c30] at H
          exact absurd H (by simp)
     rw [if_neg c5] at H
     exact absurd H (by simp)
    rw [if_neg c4] at H
    exact absurd H (by simp)
   rw [if_neg c3] at H
   have c3b0 : decide (x14_1 < (l0.length : Int)) = false := decide_eq_false c3
   clear c3
   obtain rfl := Option.some.inj H
   go_wp2
   go_ret
   exact ⟨eq', bq⟩
theorem cmp_isNaN_string.calls (a0 : ByteArray) (r : Bool) (w : World) (h : cmp_isNaN_string.f a0 = some r) :
  Calls Tryz.prog 68 #[.string a0] w fun e w' => e = .returned (.bool r) ∧ Drawn0 w w' := by
 have H : (some (a0.toList != a0.toList)) = some r := h
 clear h
 obtain rfl := Option.some.inj H
 go_enter Tryz.func68, Tryz.ntmps68
 go_wp2
 go_ret
 exact ⟨by first | rfl | (simp; done) | (simp [*]; done), by repeat (first | exact Drawn0.refl _ | apply Drawn0.step)⟩
theorem cmp_Compare_string.calls (a0 : ByteArray) (a1 : ByteArray) (r : Int) (w : World) (h : cmp_Compare_string.f a0 a1 = some r) :
  Calls Tryz.prog 42 #[.string a0, .string a1] w fun e w' => e = .returned (.int .i64 r) ∧ Drawn0 w w' := by
 have H : ((cmp_isNaN_string.f a0).bind fun t126 => ((cmp_isNaN_string.f a1).bind fun t127 => (if t126 = true then (if t127 = true then (some 0) else (some (-1))) else (if t127 = true then (some 1) else (if (Op.bytesLess a0.toList a1.toList) = true then (some (-1)) else (if (Op.bytesLess a1.toList a0.toList) = true then (some 1) else (some 0))))))) = some r := h
 clear h
 replace H := Option.bind_eq_some_iff.mp H
 obtain ⟨t126, A30, H⟩ := H
 (try dsimp only at H)
 have A3 := am A30
 clear A30
 replace H := Option.bind_eq_some_iff.mp H
 obtain ⟨t127, A40, H⟩ := H
 (try dsimp only at H)
 have A4 := am A40
 clear A40
 by_cases c5 : t126 = true
 ·subst c5
  rw [if_pos rfl] at H
  by_cases c6 : t127 = true
  ·subst c6
   rw [if_pos rfl] at H
   obtain rfl := Option.some.inj H
   go_enter Tryz.func42, Tryz.ntmps42
   go_wp2_with (first | ((with_reducible refine gate_callee (f := 68) rfl ?_); refine gL (some 8) Tryz.func68 #[.string a0] ?_; (with_reducible refine (cmp_isNaN_string.calls a0 true _ A3.out).mono ?_); rintro e w' ⟨rfl, ⟨nd, rfl⟩⟩; refine ⟨_, rfl, ?_⟩) | ((with_reducible refine gate_callee (f := 68) rfl ?_); refine gL (some 10) Tryz.func68 #[.string a1] ?_; (with_reducible refine (cmp_isNaN_string.calls a1 true _ A4.out).mono ?_); rintro e w' ⟨rfl, ⟨nd, rfl⟩⟩; refine ⟨_, rfl, ?_⟩))
   go_ret
   exact ⟨by first | rfl | (simp; done) | (simp [*]; done), by repeat (first | exact Drawn0.refl _ | apply Drawn0.step)⟩
  replace c6 := Bool.eq_false_iff.mpr c6
  subst c6
  rw [if_neg nf] at H
  obtain rfl := Option.some.inj H
  go_enter Tryz.func42, Tryz.ntmps42
  go_wp2_with (first | ((with_reducible refine gate_callee (f := 68) rfl ?_); refine gL (some 8) Tryz.func68 #[.string a0] ?_; (with_reducible refine (cmp_isNaN_string.calls a0 true _ A3.out).mono ?_); rintro e w' ⟨rfl, ⟨nd, rfl⟩⟩; refine ⟨_, rfl, ?_⟩) | ((with_reducible refine gate_callee (f := 68) rfl ?_); refine gL (some 10) Tryz.func68 #[.string a1] ?_; (with_reducible refine (cmp_isNaN_string.calls a1 false _ A4.out).mono ?_); rintro e w' ⟨rfl, ⟨nd, rfl⟩⟩; refine ⟨_, rfl, ?_⟩))
  go_ret
  exact ⟨by first | rfl | (simp; done) | (simp [*]; done), by repeat (first | exact Drawn0.refl _ | apply Drawn0.step)⟩
 replace c5 := Bool.eq_false_iff.mpr c5
 subst c5
 rw [if_neg nf] at H
 by_cases c7 : t127 = true
 ·subst c7
  rw [if_pos rfl] at H
  obtain rfl := Option.some.inj H
  go_enter Tryz.func42, Tryz.ntmps42
  go_wp2_with (first | ((with_reducible refine gate_callee (f := 68) rfl ?_); refine gL (some 8) Tryz.func68 #[.string a0] ?_; (with_reducible refine (cmp_isNaN_string.calls a0 false _ A3.out).mono ?_); rintro e w' ⟨rfl, ⟨nd, rfl⟩⟩; refine ⟨_, rfl, ?_⟩) | ((with_reducible refine gate_callee (f := 68) rfl ?_); refine gL (some 10) Tryz.func68 #[.string a1] ?_; (with_reducible refine (cmp_isNaN_string.calls a1 true _ A4.out).mono ?_); rintro e w' ⟨rfl, ⟨nd, rfl⟩⟩; refine ⟨_, rfl, ?_⟩))
  go_ret
  exact ⟨by first | rfl | (simp; done) | (simp [*]; done), by repeat (first | exact Drawn0.refl _ | apply Drawn0.step)⟩
 replace c7 := Bool.eq_false_iff.mpr c7
 subst c7
 rw [if_neg nf] at H
 by_cases c8 : (Op.bytesLess a0.toList a1.toList) = true
 ·rw [if_pos c8] at H
  have c8b0 : (Op.bytesLess a0.toList a1.toList) = true := c8
  clear c8
  obtain rfl := Option.some.inj H
  go_enter Tryz.func42, Tryz.ntmps42
  go_wp2_with (first | ((with_reducible refine gate_callee (f := 68) rfl ?_); refine gL (some 8) Tryz.func68 #[.string a0] ?_; (with_reducible refine (cmp_isNaN_string.calls a0 false _ A3.out).mono ?_); rintro e w' ⟨rfl, ⟨nd, rfl⟩⟩; refine ⟨_, rfl, ?_⟩) | ((with_reducible refine gate_callee (f := 68) rfl ?_); refine gL (some 10) Tryz.func68 #[.string a1] ?_; (with_reducible refine (cmp_isNaN_string.calls a1 false _ A4.out).mono ?_); rintro e w' ⟨rfl, ⟨nd, rfl⟩⟩; refine ⟨_, rfl, ?_⟩))
  go_ret
  exact ⟨by first | rfl | (simp; done) | (simp [*]; done), by repeat (first | exact Drawn0.refl _ | apply Drawn0.step)⟩
 rw [if_neg c8] at H
 have c8b0 : (Op.bytesLess a0.toList a1.toList) = false := by simpa using c8
 clear c8
 by_cases c9 : (Op.bytesLess a1.toList a0.toList) = true
 ·rw [if_pos c9] at H
  have c9b0 : (Op.bytesLess a1.toList a0.toList) = true := c9
  clear c9
  obtain rfl := Option.some.inj H
  go_enter Tryz.func42, Tryz.ntmps42
  go_wp2_with (first | ((with_reducible refine gate_callee (f := 68) rfl ?_); refine gL (some 8) Tryz.func68 #[.string a0] ?_; (with_reducible refine (cmp_isNaN_string.calls a0 false _ A3.out).mono ?_); rintro e w' ⟨rfl, ⟨nd, rfl⟩⟩; refine ⟨_, rfl, ?_⟩) | ((with_reducible refine gate_callee (f := 68) rfl ?_); refine gL (some 10) Tryz.func68 #[.string a1] ?_; (with_reducible refine (cmp_isNaN_string.calls a1 false _ A4.out).mono ?_); rintro e w' ⟨rfl, ⟨nd, rfl⟩⟩; refine ⟨_, rfl, ?_⟩))
  go_ret
  exact ⟨by first | rfl | (simp; done) | (simp [*]; done), by repeat (first | exact Drawn0.refl _ | apply Drawn0.step)⟩
 rw [if_neg c9] at H
 have c9b0 : (Op.bytesLess a1.toList a0.toList) = false := by simpa using c9
 clear c9
 obtain rfl := Option.some.inj H
 go_enter Tryz.func42, Tryz.ntmps42
 go_wp2_with (first | ((with_reducible refine gate_callee (f := 68) rfl ?_); refine gL (some 8) Tryz.func68 #[.string a0] ?_; (with_reducible refine (cmp_isNaN_string.calls a0 false _ A3.out).mono ?_); rintro e w' ⟨rfl, ⟨nd, rfl⟩⟩; refine ⟨_, rfl, ?_⟩) | ((with_reducible refine gate_callee (f := 68) rfl ?_); refine gL (some 10) Tryz.func68 #[.string a1] ?_; (with_reducible refine (cmp_isNaN_string.calls a1 false _ A4.out).mono ?_); rintro e w' ⟨rfl, ⟨nd, rfl⟩⟩; refine ⟨_, rfl, ?_⟩))
 go_ret
 exact ⟨by first | rfl | (simp; done) | (simp [*]; done), by repeat (first | exact Drawn0.refl _ | apply Drawn0.step)⟩
end Go.Proofs.YtcoialpohgfikaaGreatDoor.C
