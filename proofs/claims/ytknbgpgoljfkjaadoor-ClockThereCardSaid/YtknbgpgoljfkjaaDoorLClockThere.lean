/- Proved: for every three times of day the law ClockThere returns true. No condition. -/
import Derived.Test.YtknbgpgoljfkjaaDoorCards
import Derived.Test.YtknbgpgoljfkjaaDoorTie
import Derived.Test.YtknbgpgoljfkjaaDoorCx28
import Derived.Test.YtknbgpgoljfkjaaDoorPure
import Derived.WalkKit
import Derived.ProofKit
import Derived.OpenShut
import Derived.ShutString
import Derived.ChangeOld
import Derived.Below
import Derived.SizedLaws
import Derived.Carry
import Derived.Lib.SmallJoins
import Derived.Deep.DeepHandedRow
import Derived.Lib.LaidTab
namespace Go.Proofs.YtknbgpgoljfkjaaDoor.clockThere
open Go.ChangeShapes Go.WideShapes Go.ChangeAt Go.RowKit Go.Joins
open Go.ChangeMaps (open_string shut_string)

theorem own : ownKnob Tryd.prog.godebug = none := by kernel_rfl
theorem laidOut : laidOutB Tryd.prog = true := by kernel_rfl
theorem cells23 : Tryd.prog.cellsOf 23 = 4 := by kernel_rfl
theorem gTab : Tryd.prog.globalNamed "pentaglot/clock.periods" = some 0 := by kernel_rfl
theorem gTabType : (Tryd.prog.globals[0]?).map (·.type) = some 46 := by kernel_rfl
theorem cells46 : Tryd.prog.cellsOf 46 = 4 := by kernel_rfl
theorem cells3 : Tryd.prog.cellsOf 3 = 1 := by kernel_rfl
/-- What the row's list gives: the table's cells hold its numbers. -/
theorem table {W : World} (h : laidMetH Tryd.prog Rows.clockThereRow.laid W) : Lib.TabIs Tryd.prog W "pentaglot/clock.periods" .i64 [0, 1, 2, 6] :=
  Lib.tabIs_of_head (rest := []) gTab gTabType Tryd.underlying46 Tryd.underlying3 cells3 cells46 h

/-- What the walk gives for every argument and every world. -/
theorem contract (H : Type) (enc : TypeId × Value → H) (W : World) (base : Nat) (args : Array Value) (ds gs : List (DataW H)) (before : List MemPlace)
    (hval : ∀ (j : Nat) t v, Tryd.f11.params[j]? = some t → args[j]? = some v → Value.okWide Tryd.prog W .any base t v)
    (hW : DataW.Whole enc Tryd.prog Tryd.f11.params.toList Rows.clockThereSpec.vars false W args.toList ds gs before) (hL : laidMetH Tryd.prog Rows.clockThereRow.laid W)
    (hsz : (DataW.weightsEach Tryd.prog (Tryd.f11.params.toList ++ Rows.clockThereSpec.plain.varTypes Tryd.prog) (ds ++ gs)).all (· ≤ reachBytes) = true) :
    Calls Tryd.prog 11 args W fun e W' => ∃ v, e = .returned v ∧ Rows.clockThereSpec.post enc Tryd.prog Tryd.f11 false true false false W args v W' := by
  have hW' := hW
  obtain ⟨p, q, hA0, hV, rfl, hfz, hnd⟩ := hW
  have hA : DataW.TrodAll enc Tryd.prog W 0 (fun _ => true) true Tryd.f11.params.toList args.toList ds p := hA0
  rw [Tryd.params11] at hA hval hsz
  obtain ⟨v0, vs0, d0, ds0, p0, q0, hargs, rfl, rfl, h0, r0⟩ := trodAll_cons hA
  obtain ⟨v1, vs1, d1, ds1, p1, q1, rfl, rfl, rfl, h1, r1⟩ := trodAll_cons r0
  obtain ⟨v2, vs2, d2, ds2, p2, q2, rfl, rfl, rfl, h2, r2⟩ := trodAll_cons r1
  obtain ⟨rfl, rfl, rfl⟩ := trodAll_nil r2
  obtain rfl : args = #[v0, v1, v2] := by cases args; simp_all
  obtain ⟨rfl, rfl⟩ := trodVars_none hV
  have k0 := h0
  have lt0 : ∀ x ∈ p0, x.block < W.heap.size := by obtain ⟨m, hm⟩ := k0; exact DataW.trod_lt m _ _ _ hm
  obtain ⟨c0_0, c0_1, c0_2, c0_3, y0_0, y0_1, y0_2, y0_3, _, rfl, _, _, ry0_0, ry0_1, ry0_2, ry0_3⟩ := open_agg4 Tryd.underlying23 (by kernel_rfl) cells23 (hval 0 23 v0 rfl rfl) h0
  obtain ⟨a0_0, ea0_0, _, w0_0⟩ := DataW.trod_int Tryd.underlying3 ry0_0
  simp only [List.cons.injEq, and_true] at ea0_0
  subst ea0_0
  obtain ⟨a0_1, ea0_1, _, w0_1⟩ := DataW.trod_int Tryd.underlying3 ry0_1
  simp only [List.cons.injEq, and_true] at ea0_1
  subst ea0_1
  obtain ⟨a0_2, ea0_2, _, w0_2⟩ := DataW.trod_int Tryd.underlying3 ry0_2
  simp only [List.cons.injEq, and_true] at ea0_2
  subst ea0_2
  obtain ⟨a0_3, ea0_3, _, w0_3⟩ := DataW.trod_int Tryd.underlying3 ry0_3
  simp only [List.cons.injEq, and_true] at ea0_3
  subst ea0_3
  have k1 := h1
  have lt1 : ∀ x ∈ p1, x.block < W.heap.size := by obtain ⟨m, hm⟩ := k1; exact DataW.trod_lt m _ _ _ hm
  obtain ⟨c1_0, c1_1, c1_2, c1_3, y1_0, y1_1, y1_2, y1_3, _, rfl, _, _, ry1_0, ry1_1, ry1_2, ry1_3⟩ := open_agg4 Tryd.underlying23 (by kernel_rfl) cells23 (hval 1 23 v1 rfl rfl) h1
  obtain ⟨a1_0, ea1_0, _, w1_0⟩ := DataW.trod_int Tryd.underlying3 ry1_0
  simp only [List.cons.injEq, and_true] at ea1_0
  subst ea1_0
  obtain ⟨a1_1, ea1_1, _, w1_1⟩ := DataW.trod_int Tryd.underlying3 ry1_1
  simp only [List.cons.injEq, and_true] at ea1_1
  subst ea1_1
  obtain ⟨a1_2, ea1_2, _, w1_2⟩ := DataW.trod_int Tryd.underlying3 ry1_2
  simp only [List.cons.injEq, and_true] at ea1_2
  subst ea1_2
  obtain ⟨a1_3, ea1_3, _, w1_3⟩ := DataW.trod_int Tryd.underlying3 ry1_3
  simp only [List.cons.injEq, and_true] at ea1_3
  subst ea1_3
  have k2 := h2
  have lt2 : ∀ x ∈ p2, x.block < W.heap.size := by obtain ⟨m, hm⟩ := k2; exact DataW.trod_lt m _ _ _ hm
  obtain ⟨c2_0, c2_1, c2_2, c2_3, y2_0, y2_1, y2_2, y2_3, _, rfl, _, _, ry2_0, ry2_1, ry2_2, ry2_3⟩ := open_agg4 Tryd.underlying23 (by kernel_rfl) cells23 (hval 2 23 v2 rfl rfl) h2
  obtain ⟨a2_0, ea2_0, _, w2_0⟩ := DataW.trod_int Tryd.underlying3 ry2_0
  simp only [List.cons.injEq, and_true] at ea2_0
  subst ea2_0
  obtain ⟨a2_1, ea2_1, _, w2_1⟩ := DataW.trod_int Tryd.underlying3 ry2_1
  simp only [List.cons.injEq, and_true] at ea2_1
  subst ea2_1
  obtain ⟨a2_2, ea2_2, _, w2_2⟩ := DataW.trod_int Tryd.underlying3 ry2_2
  simp only [List.cons.injEq, and_true] at ea2_2
  subst ea2_2
  obtain ⟨a2_3, ea2_3, _, w2_3⟩ := DataW.trod_int Tryd.underlying3 ry2_3
  simp only [List.cons.injEq, and_true] at ea2_3
  subst ea2_3
  clear hA0 hnd hfz
  obtain ⟨k, h⟩ := Pure.ClockThere a0_0 a0_1 a0_2 a0_3 a1_0 a1_1 a1_2 a1_3 a2_0 a2_1 a2_2 a2_3
  have hG : C.Glob W := ⟨(table hL).cell gTab 1 (by decide), (table hL).cell gTab 2 (by decide), (table hL).cell gTab 3 (by decide)⟩
  refine (C.pentaglotlaw19_ClockThere.calls k a0_0 a0_1 a0_2 a0_3 a1_0 a1_1 a1_2 a1_3 a2_0 a2_1 a2_2 a2_3 true W hG h).mono ?_
  rintro e W' ⟨rfl, bel⟩
  exact ⟨_, rfl, _, _, _, [], _, [], hW', trodAll_mk1 (shut_bool Tryd.underlying4 _), (trodAll_cons_mk (Below.trod laidOut (by kernel_rfl) (of_decide_eq_true (by kernel_rfl)) k0 bel lt0) (trodAll_cons_mk (Below.trod laidOut (by kernel_rfl) (of_decide_eq_true (by kernel_rfl)) k1 bel lt1) (trodAll_cons_mk (Below.trod laidOut (by kernel_rfl) (of_decide_eq_true (by kernel_rfl)) k2 bel lt2) trodAll_mk0))), rfl, bel.frame _, fun h => by cases h⟩

/-- A world for the witness: the settled one, the table's block holding what its initialiser lays. -/
noncomputable def laidWorld (os : Os) : World :=
  { World.holding Tryd.prog os ⟨#[], #[], []⟩ with heap := (World.holding Tryd.prog os ⟨#[], #[], []⟩).heap.modify 0 fun
      | .cells _ t frozen => .cells #[.int .i64 0, .int .i64 1, .int .i64 2, .int .i64 6] t frozen
      | o => o }
theorem laid_met (os : Os) : laidMet Tryd.prog Rows.clockThereRow.laid ((laidWorld os).forCall (fun _ _ => 0) ⟨#[], #[.agg #[.int .i64 0, .int .i64 0, .int .i64 0, .int .i64 0], .agg #[.int .i64 0, .int .i64 0, .int .i64 0, .int .i64 0], .agg #[.int .i64 0, .int .i64 0, .int .i64 0, .int .i64 0]], []⟩).memory :=
  laidMet_of_run' 8 (by kernel_rfl) (by kernel_rfl)
theorem reads (os : Os) {H : Type} (enc : TypeId × Value → H) : ∃ places, DataW.whole enc Tryd.prog ((laidWorld os).forCall (fun _ _ => 0) ⟨#[], #[.agg #[.int .i64 0, .int .i64 0, .int .i64 0, .int .i64 0], .agg #[.int .i64 0, .int .i64 0, .int .i64 0, .int .i64 0], .agg #[.int .i64 0, .int .i64 0, .int .i64 0, .int .i64 0]], []⟩).memory Tryd.f11.params.toList Rows.clockThereSpec.vars false #[(.agg #[.int .i64 0, .int .i64 0, .int .i64 0, .int .i64 0] : Value), (.agg #[.int .i64 0, .int .i64 0, .int .i64 0, .int .i64 0] : Value), (.agg #[.int .i64 0, .int .i64 0, .int .i64 0, .int .i64 0] : Value)].toList 8 = some ([.agg [.lit (.int .i64 0), .lit (.int .i64 0), .lit (.int .i64 0), .lit (.int .i64 0)], .agg [.lit (.int .i64 0), .lit (.int .i64 0), .lit (.int .i64 0), .lit (.int .i64 0)], .agg [.lit (.int .i64 0), .lit (.int .i64 0), .lit (.int .i64 0), .lit (.int .i64 0)]], [], places) :=
  ⟨[], by kernel_rfl⟩
set_option maxRecDepth 100000 in
theorem lifted (os : Os) (started : os.Started) (H : Type) (enc : TypeId × Value → H) (F : Stop.Interp) :
    ReturnsInHanded {} Tryd.checked os 11 .any ((OpenSpec.ofChange Rows.clockThereSpec).preRow enc Tryd.prog Tryd.f11 Rows.clockThereRow.domain false Rows.clockThereRow.laid) (((OpenSpec.ofChange Rows.clockThereSpec).at F).post enc Tryd.prog Tryd.f11 false true false false) := by
  obtain ⟨places, hx⟩ := reads os enc
  refine returnsInHanded_of_row (C := Tryd.checked) (s := OpenSpec.ofChange Rows.clockThereSpec) own started (by kernel_rfl) Tryd.func11
    (witness_row_at (enc := enc) (C := Tryd.checked) false (laidWorld os) #[.agg #[.int .i64 0, .int .i64 0, .int .i64 0, .int .i64 0], .agg #[.int .i64 0, .int .i64 0, .int .i64 0, .int .i64 0], .agg #[.int .i64 0, .int .i64 0, .int .i64 0, .int .i64 0]] rfl (by kernel_rfl) (by kernel_rfl) (by kernel_rfl)
      (OpenSpec.preRow_of_cond 8 hx (by kernel_rfl) (fun k hk => by cases hk) (by kernel_rfl) (laid_met os))) ?_
  intro W base args ds gs before hval hW _ _ hsz hL _ _
  exact contract H enc W base args ds gs before hval hW hL hsz
theorem said : Rows.ClockThereSaid :=
  OpenClaim.holds_of_cond 11 Tryd.f11 rfl rfl rfl rfl rfl rfl rfl ⟨rfl, rfl, rfl, rfl, rfl⟩ rfl rfl rfl rfl rfl (by kernel_rfl) Tryd.func11 (by kernel_rfl)
    (of_decide_eq_true (by kernel_rfl)) (by unfold Func.isWrapper; first | (rw [if_pos (by decide +kernel)]; kernel_rfl) | (rw [if_neg (by decide +kernel)]; exact ⟨rfl, rfl⟩))
    (fun os started H enc _ F => by rw [OpenClaim.pre_eq_preRow]; exact lifted os started H enc F)
theorem plain (f : FuncId) (fn : Func) (hf : Tryd.pinned.checked.prog.funcNamed "pentaglot/pentaglotlaw19.ClockThere" = some f) (hfn : Tryd.pinned.checked.prog.funcs[f]? = some fn) :
    false = Tryd.pinned.checked.prog.looks [] ∧ ∀ (j : Nat) t, fn.params[j]? = some t → Tryd.pinned.checked.prog.wantsStandIn t = false := by
  obtain rfl : f = 11 := Option.some.inj ((show Tryd.prog.funcNamed "pentaglot/pentaglotlaw19.ClockThere" = some 11 by kernel_rfl).symm.trans hf) |>.symm
  obtain rfl : fn = Tryd.f11 := (Option.some.inj (Tryd.func11.symm.trans hfn)).symm
  refine ⟨by kernel_rfl, fun j t ht => ?_⟩
  rw [Tryd.params11] at ht
  have hm : t ∈ [23, 23, 23] := by simpa using Array.mem_of_getElem? ht
  have hall : ([23, 23, 23].all fun u => !Tryd.prog.wantsStandIn u) = true := by kernel_rfl
  exact (show Tryd.prog.wantsStandIn t = false by simpa using List.all_eq_true.1 hall t hm)
theorem card : Rows.ClockThereCardSaid :=
  Claim7.holds_tied_plain_at .later [] _ _ _ _ said (fun _ h => by cases h) (by kernel_rfl) (fun _ h => by cases h) clockThere_row_tie rfl ⟨rfl, rfl⟩ (by kernel_rfl) rfl plain (by kernel_rfl)
#print axioms card
end Go.Proofs.YtknbgpgoljfkjaaDoor.clockThere
namespace Go.Proofs.YtknbgpgoljfkjaaDoor
/-- The card, under a short name, for the claim. -/
theorem clockThere_holds : Rows.ClockThereCardSaid := clockThere.card
end Go.Proofs.YtknbgpgoljfkjaaDoor
