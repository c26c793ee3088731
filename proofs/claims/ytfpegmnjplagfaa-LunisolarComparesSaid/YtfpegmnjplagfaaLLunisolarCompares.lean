/- Proved: for every two dates the law LunisolarCompares returns true. No condition. -/
import Derived.Test.YtfpegmnjplagfaaRows
import Derived.Test.YtfpegmnjplagfaaCx35
import Derived.Test.YtfpegmnjplagfaaPure
import Derived.Test.YtfpegmnjplagfaaOp
import Derived.WalkKit
import Derived.ProofKit
import Derived.OpenShut
import Derived.ShutString
import Derived.ChangeOld
import Derived.Below
import Derived.SizedLaws
import Derived.Carry
import Derived.Lib.SmallJoins
namespace Go.Proofs.Ytfpegmnjplagfaa.lunisolarCompares
open Go.ChangeShapes Go.WideShapes Go.ChangeAt Go.RowKit Go.Joins
open Go.ChangeMaps (open_string shut_string)

theorem own : ownKnob Try.prog.godebug = none := by kernel_rfl
theorem laidOut : laidOutB Try.prog = true := by kernel_rfl
theorem cells34 : Try.prog.cellsOf 34 = 5 := by kernel_rfl

/-- What the walk gives for every argument and every world. -/
theorem contract (H : Type) (enc : TypeId × Value → H) (W : World) (base : Nat) (args : Array Value) (ds gs : List (DataW H)) (before : List MemPlace)
    (hval : ∀ (j : Nat) t v, Try.f12.params[j]? = some t → args[j]? = some v → Value.okWide Try.prog W .any base t v)
    (hW : DataW.Whole enc Try.prog Try.f12.params.toList Rows.lunisolarComparesSpec.vars false W args.toList ds gs before)
    (hsz : (DataW.weightsEach Try.prog (Try.f12.params.toList ++ Rows.lunisolarComparesSpec.plain.varTypes Try.prog) (ds ++ gs)).all (· ≤ reachBytes) = true) :
    Calls Try.prog 12 args W fun e W' => ∃ v, e = .returned v ∧ Rows.lunisolarComparesSpec.post enc Try.prog Try.f12 false true false false W args v W' := by
  have hW' := hW
  obtain ⟨p, q, hA0, hV, rfl, hfz, hnd⟩ := hW
  have hA : DataW.TrodAll enc Try.prog W 0 (fun _ => true) true Try.f12.params.toList args.toList ds p := hA0
  rw [Try.params12] at hA hval hsz
  obtain ⟨v0, vs0, d0, ds0, p0, q0, hargs, rfl, rfl, h0, r0⟩ := trodAll_cons hA
  obtain ⟨v1, vs1, d1, ds1, p1, q1, rfl, rfl, rfl, h1, r1⟩ := trodAll_cons r0
  obtain ⟨rfl, rfl, rfl⟩ := trodAll_nil r1
  obtain rfl : args = #[v0, v1] := by cases args; simp_all
  obtain ⟨rfl, rfl⟩ := trodVars_none hV
  have k0 := h0
  have lt0 : ∀ x ∈ p0, x.block < W.heap.size := by obtain ⟨m, hm⟩ := k0; exact DataW.trod_lt m _ _ _ hm
  obtain ⟨cs0, rfl, hcs0, hfs0⟩ := Op.open_agg Try.underlying34 (by kernel_rfl) cells34 (hval 0 34 v0 rfl rfl) h0
  obtain ⟨c0_0, y0_0, _, zc0_0, ry0_0⟩ := hfs0 0 _ rfl
  obtain ⟨c0_1, y0_1, _, zc0_1, ry0_1⟩ := hfs0 1 _ rfl
  obtain ⟨c0_2, y0_2, _, zc0_2, ry0_2⟩ := hfs0 2 _ rfl
  obtain ⟨c0_3, y0_3, _, zc0_3, ry0_3⟩ := hfs0 3 _ rfl
  obtain ⟨c0_4, y0_4, _, zc0_4, ry0_4⟩ := hfs0 4 _ rfl
  obtain rfl := Op.arr5 (show cs0.size = 5 from hcs0) zc0_0 zc0_1 zc0_2 zc0_3 zc0_4
  obtain ⟨a0_0, ea0_0, _, w0_0⟩ := DataW.trod_int Try.underlying3 ry0_0
  simp only [List.cons.injEq, and_true] at ea0_0
  subst ea0_0
  obtain ⟨a0_1, ea0_1, _, w0_1⟩ := DataW.trod_int Try.underlying3 ry0_1
  simp only [List.cons.injEq, and_true] at ea0_1
  subst ea0_1
  obtain ⟨a0_2, ea0_2, _, w0_2⟩ := DataW.trod_int Try.underlying3 ry0_2
  simp only [List.cons.injEq, and_true] at ea0_2
  subst ea0_2
  obtain ⟨a0_3, ea0_3, _, w0_3⟩ := DataW.trod_int Try.underlying3 ry0_3
  simp only [List.cons.injEq, and_true] at ea0_3
  subst ea0_3
  obtain ⟨a0_4, ea0_4, _⟩ := DataW.trod_bool Try.underlying4 ry0_4
  simp only [List.cons.injEq, and_true] at ea0_4
  subst ea0_4
  have k1 := h1
  have lt1 : ∀ x ∈ p1, x.block < W.heap.size := by obtain ⟨m, hm⟩ := k1; exact DataW.trod_lt m _ _ _ hm
  obtain ⟨cs1, rfl, hcs1, hfs1⟩ := Op.open_agg Try.underlying34 (by kernel_rfl) cells34 (hval 1 34 v1 rfl rfl) h1
  obtain ⟨c1_0, y1_0, _, zc1_0, ry1_0⟩ := hfs1 0 _ rfl
  obtain ⟨c1_1, y1_1, _, zc1_1, ry1_1⟩ := hfs1 1 _ rfl
  obtain ⟨c1_2, y1_2, _, zc1_2, ry1_2⟩ := hfs1 2 _ rfl
  obtain ⟨c1_3, y1_3, _, zc1_3, ry1_3⟩ := hfs1 3 _ rfl
  obtain ⟨c1_4, y1_4, _, zc1_4, ry1_4⟩ := hfs1 4 _ rfl
  obtain rfl := Op.arr5 (show cs1.size = 5 from hcs1) zc1_0 zc1_1 zc1_2 zc1_3 zc1_4
  obtain ⟨a1_0, ea1_0, _, w1_0⟩ := DataW.trod_int Try.underlying3 ry1_0
  simp only [List.cons.injEq, and_true] at ea1_0
  subst ea1_0
  obtain ⟨a1_1, ea1_1, _, w1_1⟩ := DataW.trod_int Try.underlying3 ry1_1
  simp only [List.cons.injEq, and_true] at ea1_1
  subst ea1_1
  obtain ⟨a1_2, ea1_2, _, w1_2⟩ := DataW.trod_int Try.underlying3 ry1_2
  simp only [List.cons.injEq, and_true] at ea1_2
  subst ea1_2
  obtain ⟨a1_3, ea1_3, _, w1_3⟩ := DataW.trod_int Try.underlying3 ry1_3
  simp only [List.cons.injEq, and_true] at ea1_3
  subst ea1_3
  obtain ⟨a1_4, ea1_4, _⟩ := DataW.trod_bool Try.underlying4 ry1_4
  simp only [List.cons.injEq, and_true] at ea1_4
  subst ea1_4
  clear hA0 hnd hfz
  obtain ⟨k, h⟩ := Pure.LunisolarCompares a0_0 a0_1 a0_2 a0_3 a0_4 a1_0 a1_1 a1_2 a1_3 a1_4
  refine (C.pentaglotlaw18_LunisolarCompares.calls k a0_0 a0_1 a0_2 a0_3 a0_4 a1_0 a1_1 a1_2 a1_3 a1_4 true W h).mono ?_
  rintro e W' ⟨rfl, bel⟩
  exact ⟨_, rfl, _, _, _, [], _, [], hW', trodAll_mk1 (shut_bool Try.underlying4 _), (trodAll_cons_mk (Below.trod laidOut (by kernel_rfl) (of_decide_eq_true (by kernel_rfl)) k0 bel lt0) (trodAll_cons_mk (Below.trod laidOut (by kernel_rfl) (of_decide_eq_true (by kernel_rfl)) k1 bel lt1) trodAll_mk0)), rfl, bel.frame _, fun h => by cases h⟩

set_option maxRecDepth 100000 in
theorem lifted (os : Os) (started : os.Started) (H : Type) (enc : TypeId × Value → H) :
    ReturnsInHanded {} Try.checked os 12 .any (Rows.lunisolarComparesSpec.pre6 enc Try.prog Try.f12 Rows.lunisolarComparesRow.domain false) (Rows.lunisolarComparesSpec.post enc Try.prog Try.f12 false true false false) := by
  refine returnsInHanded_of_change_sized (C := Try.checked) own started (by kernel_rfl) Try.func12
    (ChangeSpec.witness6 (enc := enc) (C := Try.checked) false ⟨#[], #[.agg #[.int .i64 0, .int .i64 0, .int .i64 0, .int .i64 0, .bool false], .agg #[.int .i64 0, .int .i64 0, .int .i64 0, .int .i64 0, .bool false]], []⟩ 8 (by kernel_rfl) (by kernel_rfl) (by kernel_rfl) (by kernel_rfl)) ?_
  intro W base args ds gs before hval0 hW hcnd hsz0 _
  exact contract H enc W base args ds gs before hval0 hW hsz0
theorem over : Rows.lunisolarComparesRow.holds Try.pinned (OpenSpec.ofChange Rows.lunisolarComparesSpec) :=
  OpenClaim.holds_of_wide 12 Try.f12 rfl rfl rfl rfl rfl rfl rfl ⟨rfl, rfl, rfl, rfl, rfl⟩ rfl rfl rfl rfl rfl (by kernel_rfl) Try.func12 (by kernel_rfl)
    (of_decide_eq_true (by kernel_rfl)) (by unfold Func.isWrapper; first | (rw [if_pos (by decide +kernel)]; kernel_rfl) | (rw [if_neg (by decide +kernel)]; exact ⟨rfl, rfl⟩))
    (fun os started H enc _ => lifted os started H enc)
theorem proved : Rows.LunisolarComparesSaid := over
#print axioms proved
end Go.Proofs.Ytfpegmnjplagfaa.lunisolarCompares
namespace Go.Proofs.Ytfpegmnjplagfaa
/-- The row, under a short name, for the claim. -/
theorem lunisolarCompares_holds : Rows.LunisolarComparesSaid := lunisolarCompares.proved
end Go.Proofs.Ytfpegmnjplagfaa
