/- Proved: for all units and parts the law MeasureRound returns true. No condition. -/
import Derived.Test.YtpfmcifiocpfbaaRows
import Derived.Test.YtpfmcifiocpfbaaCx36
import Derived.Test.YtpfmcifiocpfbaaPureD
import Derived.Test.YtpfmcifiocpfbaaSl
import Derived.WalkKit
import Derived.ProofKit
import Derived.OpenShut
import Derived.ShutString
import Derived.ChangeOld
import Derived.Below
import Derived.SizedLaws
import Derived.Carry
import Derived.Lib.SmallJoins
namespace Go.Proofs.Ytpfmcifiocpfbaa.measureRound
open Go.ChangeShapes Go.WideShapes Go.ChangeAt Go.RowKit Go.Joins Go.Proofs.Ytpfmcifiocpfbaa.C Go.Proofs.YtpfmcifiocpfbaaW.PrintWords
open Go.ChangeMaps (open_string shut_string)

theorem own : ownKnob Try.prog.godebug = none := by kernel_rfl
theorem laidOut : laidOutB Try.prog = true := by kernel_rfl
def IsRow (k : IntKind) (w : World) (a : Option Addr) (len cap : Nat) (zs : List Int) : Prop :=
  (a = none ∧ len = 0 ∧ cap = 0 ∧ zs = []) ∨
  ∃ x, a = some x ∧ len ≤ cap ∧ cap ≤ maxLen ∧ zs.length = cap ∧ (∀ i, i < zs.length → w.cell? (x.add i) = some (.int k (zs.getD i 0))) ∧ ∀ n ∈ zs, (Lit.int k n).wf = true
theorem open_T41 {H : Type} {enc : TypeId × Value → H} {W : World} {a : Option Addr} {len cap : Nat} {D : DataW H} {p : List MemPlace} (h : DataW.Trod enc Try.prog W 0 (fun _ => true) true 22 (.slice a len cap) D p) : ∃ l : List S41, len = l.length ∧ l.length ≤ cap ∧ k41.C W a l.length l := by
  obtain ⟨fuel, hf⟩ := h
  rcases Sl.open_slice_fields Try.underlying22 Try.underlying41 (by kernel_rfl) (by kernel_rfl) hf with ⟨hcs, _⟩ | ⟨x, l, c, m, hcs, hl, hm, hmm, hi⟩
  · simp [Value.cells] at hcs
    obtain ⟨rfl, rfl, rfl⟩ := hcs
    exact ⟨[], rfl, Nat.le_refl _, rfl, Nat.zero_le _, fun h => absurd h (Nat.lt_irrefl 0)⟩
  · simp [Value.cells] at hcs
    obtain ⟨rfl, rfl, rfl⟩ := hcs
    have hlm : len ≤ m := by rw [hmm]; split <;> omega
    have key : ∀ i, i < len → ∃ s : S41, W.cell? (x.add (i * 2)) = some (.string s.f0) ∧ W.cell? (x.add (i * 2 + 1)) = some (.int .i64 s.f1) := fun i h => by
      obtain ⟨n, hf⟩ := hi i (by omega)
      obtain ⟨v0, y0, c0, t0⟩ := hf 0 _ rfl
      obtain ⟨s0, e0, _⟩ := DataW.trod_string Try.underlying9 t0
      simp only [List.cons.injEq, and_true] at e0
      subst e0
      obtain ⟨v1, y1, c1, t1⟩ := hf 1 _ rfl
      obtain ⟨s1, e1, _⟩ := DataW.trod_int Try.underlying3 t1
      simp only [List.cons.injEq, and_true] at e1
      subst e1
      exact ⟨⟨s0, s1⟩, c0, c1⟩
    obtain ⟨pick, hp⟩ : ∃ pick : Nat → S41, ∀ i, i < len → W.cell? (x.add (i * 2)) = some (.string (pick i).f0) ∧ W.cell? (x.add (i * 2 + 1)) = some (.int .i64 (pick i).f1) := ⟨fun i => if h : i < len then Classical.choose (key i h) else z41, fun i h => by dsimp only; rw [dif_pos h]; exact Classical.choose_spec (key i h)⟩
    refine ⟨(List.range len).map pick, by simp, by simpa using hl, by simp, by unfold maxLen at hm; simp; omega, fun _ => ⟨_, rfl, fun j q hq => ?_⟩⟩
    have hj : j < len := by
      have := (List.getElem?_eq_some_iff.1 hq).1
      simpa using this
    obtain rfl : pick j = q := by simpa [hj] using hq
    refine ⟨_, rfl, k41_mk W _, fun i u hu => ?_⟩
    obtain ⟨d0, d1⟩ := hp j hj
    match i, hu with
    | 0, hu => obtain rfl := Option.some.inj hu; exact d0
    | 1, hu => obtain rfl := Option.some.inj hu; exact d1

/-- What the walk gives for every argument and every world. -/
theorem contract (H : Type) (enc : TypeId × Value → H) (W : World) (base : Nat) (args : Array Value) (ds gs : List (DataW H)) (before : List MemPlace)
    (hval : ∀ (j : Nat) t v, Try.f11.params[j]? = some t → args[j]? = some v → Value.okWide Try.prog W .any base t v)
    (hW : DataW.Whole enc Try.prog Try.f11.params.toList Rows.measureRoundSpec.vars false W args.toList ds gs before)
    (hsz : (DataW.weightsEach Try.prog (Try.f11.params.toList ++ Rows.measureRoundSpec.plain.varTypes Try.prog) (ds ++ gs)).all (· ≤ reachBytes) = true) :
    Calls Try.prog 11 args W fun e W' => ∃ v, e = .returned v ∧ Rows.measureRoundSpec.post enc Try.prog Try.f11 false true false false W args v W' := by
  have hW' := hW
  obtain ⟨p, q, hA0, hV, rfl, hfz, hnd⟩ := hW
  have hA : DataW.TrodAll enc Try.prog W 0 (fun _ => true) true Try.f11.params.toList args.toList ds p := hA0
  rw [Try.params11] at hA hval hsz
  obtain ⟨v0, vs0, d0, ds0, p0, q0, hargs, rfl, rfl, h0, r0⟩ := trodAll_cons hA
  obtain ⟨v1, vs1, d1, ds1, p1, q1, rfl, rfl, rfl, h1, r1⟩ := trodAll_cons r0
  obtain ⟨v2, vs2, d2, ds2, p2, q2, rfl, rfl, rfl, h2, r2⟩ := trodAll_cons r1
  obtain ⟨rfl, rfl, rfl⟩ := trodAll_nil r2
  obtain rfl : args = #[v0, v1, v2] := by cases args; simp_all
  obtain ⟨rfl, rfl⟩ := trodVars_none hV
  obtain ⟨A0, len0, cap0, rfl⟩ := okWide_slice Try.underlying22 (hval 0 22 v0 rfl rfl)
  have k0 := h0
  have lt0 : ∀ x ∈ p0, x.block < W.heap.size := by obtain ⟨m, hm⟩ := k0; exact DataW.trod_lt m _ _ _ hm
  obtain ⟨a0, rfl, hc0, g0⟩ := open_T41 h0
  obtain ⟨A1, len1, cap1, rfl⟩ := okWide_slice Try.underlying22 (hval 1 22 v1 rfl rfl)
  have k1 := h1
  have lt1 : ∀ x ∈ p1, x.block < W.heap.size := by obtain ⟨m, hm⟩ := k1; exact DataW.trod_lt m _ _ _ hm
  obtain ⟨a1, rfl, hc1, g1⟩ := open_T41 h1
  obtain ⟨A2, len2, cap2, rfl⟩ := okWide_slice Try.underlying25 (hval 2 25 v2 rfl rfl)
  have k2 := h2
  have lt2 : ∀ x ∈ p2, x.block < W.heap.size := by obtain ⟨m, hm⟩ := k2; exact DataW.trod_lt m _ _ _ hm
  obtain ⟨z2, w2⟩ : ∃ zs, IsRow .i64 W A2 len2 cap2 zs := by
    obtain ⟨fuel, hf⟩ := h2
    rcases open_ints Try.underlying25 Try.underlying3 (by kernel_rfl) hf with ⟨hcs, _⟩ | ⟨x, l, c, zs, hcs, _, hl, hm, hz, _, hcell, hwz⟩
    · simp [Value.cells] at hcs
      obtain ⟨rfl, rfl, rfl⟩ := hcs
      exact ⟨[], .inl ⟨rfl, rfl, rfl, rfl⟩⟩
    · simp [Value.cells] at hcs
      obtain ⟨rfl, rfl, rfl⟩ := hcs
      exact ⟨zs, .inr ⟨_, rfl, hl, hm, by simpa using hz, hcell, hwz⟩⟩
  obtain ⟨a2, rfl, hr2, hm2, hw2, hc2⟩ := ReadsInt.ofRowC w2
  have g2 : Kd.C (Kd.int .i64) W A2 a2.length a2 := Kd.C_of_reads (d := (0 : Int)) (h1 := fun _ => rfl) hr2
  clear hA0 hnd hfz
  obtain ⟨k, h⟩ := Pure.MeasureRound a0 a1 a2
  refine (C.pentaglotlaw16_MeasureRound.calls k _ _ a0 _ _ a1 _ _ a2 true W g0 hc0 g1 hc1 g2 hc2 h).mono ?_
  rintro e W' ⟨rfl, bel⟩
  exact ⟨_, rfl, _, _, _, [], _, [], hW', trodAll_mk1 (shut_bool Try.underlying4 _), (trodAll_cons_mk (Below.trod laidOut (by kernel_rfl) (of_decide_eq_true (by kernel_rfl)) k0 bel lt0) (trodAll_cons_mk (Below.trod laidOut (by kernel_rfl) (of_decide_eq_true (by kernel_rfl)) k1 bel lt1) (trodAll_cons_mk (Below.trod laidOut (by kernel_rfl) (of_decide_eq_true (by kernel_rfl)) k2 bel lt2) trodAll_mk0))), rfl, bel.frame _, fun h => by cases h⟩

set_option maxRecDepth 100000 in
theorem lifted (os : Os) (started : os.Started) (H : Type) (enc : TypeId × Value → H) :
    ReturnsInHanded {} Try.checked os 11 .any (Rows.measureRoundSpec.pre6 enc Try.prog Try.f11 Rows.measureRoundRow.domain false) (Rows.measureRoundSpec.post enc Try.prog Try.f11 false true false false) := by
  refine returnsInHanded_of_change_sized (C := Try.checked) own started (by kernel_rfl) Try.func11
    (ChangeSpec.witness6 (enc := enc) (C := Try.checked) false ⟨#[], #[.slice none 0 0, .slice none 0 0, .slice none 0 0], []⟩ 8 (by kernel_rfl) (by kernel_rfl) (by kernel_rfl) (by kernel_rfl)) ?_
  intro W base args ds gs before hval0 hW hcnd hsz0 _
  exact contract H enc W base args ds gs before hval0 hW hsz0
theorem over : Rows.measureRoundRow.holds Try.pinned (OpenSpec.ofChange Rows.measureRoundSpec) :=
  OpenClaim.holds_of_wide 11 Try.f11 rfl rfl rfl rfl rfl rfl rfl ⟨rfl, rfl, rfl, rfl, rfl⟩ rfl rfl rfl rfl rfl (by kernel_rfl) Try.func11 (by kernel_rfl)
    (of_decide_eq_true (by kernel_rfl)) (by unfold Func.isWrapper; first | (rw [if_pos (by decide +kernel)]; kernel_rfl) | (rw [if_neg (by decide +kernel)]; exact ⟨rfl, rfl⟩))
    (fun os started H enc _ => lifted os started H enc)
theorem proved : Rows.MeasureRoundSaid := over
#print axioms proved
end Go.Proofs.Ytpfmcifiocpfbaa.measureRound
namespace Go.Proofs.Ytpfmcifiocpfbaa
/-- The row, under a short name, for the claim. -/
theorem measureRound_holds : Rows.MeasureRoundSaid := measureRound.proved
end Go.Proofs.Ytpfmcifiocpfbaa
