/- Proved: for every list of letters, every list of strings and every string the law AlphabetSorted returns true. No condition. -/
import Derived.Test.YtpgeimihmkampaaDoorCards
import Derived.Test.YtpgeimihmkampaaDoorTie
import Derived.Test.YtpgeimihmkampaaDoorCx54
import Derived.Test.YtpgeimihmkampaaDoorPureF
import Derived.Test.YtpgeimihmkampaaDoorSl
import Derived.WalkKit
import Derived.ProofKit
import Derived.OpenShut
import Derived.ShutString
import Derived.ChangeOld
import Derived.Below
import Derived.SizedLaws
import Derived.Carry
import Derived.Lib.SmallJoins
import Derived.Deep.Strs
import Derived.Deep.DeepHandedRow
import Derived.Lib.LaidTab
import Derived.Lib.LaidU8T
import Derived.Lib.LaidIn
import Derived.PinnedBridge
namespace Go.Proofs.YtpgeimihmkampaaDoor.alphabetSorted
open Go.ChangeShapes Go.WideShapes Go.ChangeAt Go.RowKit Go.Joins Go.Proofs.YtpgeimihmkampaaDoor.C Go.Proofs.YtpgeimihmkampaaDoorW.PrintWords
open Go.ChangeMaps (open_string shut_string)

theorem own : ownKnob Tryd.prog.godebug = none := by kernel_rfl
theorem laidOut : laidOutB Tryd.prog = true := by kernel_rfl
theorem accepts : (Rows.laid_unicode_utf8_acceptRanges : DataW Unit) = Go.Lib.acceptData := by kernel_rfl
theorem firsts : (Rows.laid_unicode_utf8_first : DataW Unit) = Go.Lib.firstData := by kernel_rfl
/-- What the row's list gives: the tables of unicode/utf8. -/
theorem tables {W : World} (h : laidMetH Tryd.prog Rows.alphabetSortedRow.laid W) : C.Glob W :=
  Go.Proofs.utf8Tabs_of_readsT (Go.Proofs.U8Types.of196 C.laysValid) ⟨by kernel_rfl, by kernel_rfl, by kernel_rfl, by kernel_rfl, by kernel_rfl, by kernel_rfl, by kernel_rfl⟩
    (firsts ▸ Go.Lib.laidMet.reads h (.tail _ (.head _))) (accepts ▸ Go.Lib.laidMet.reads h (.head _))
theorem open_T42 {H : Type} {enc : TypeId × Value → H} {W : World} {a : Option Addr} {len cap : Nat} {D : DataW H} {p : List MemPlace} (h : DataW.Trod enc Tryd.prog W 0 (fun _ => true) true 22 (.slice a len cap) D p) : ∃ l : List S42, len = l.length ∧ l.length ≤ cap ∧ k42.C W a l.length l ∧ ∀ s ∈ l, (Lit.int .i32 s.f0).wf = true ∧ (Lit.int .u32 s.f1).wf = true := by
  obtain ⟨fuel, hf⟩ := h
  rcases Sl.open_slice_fields Tryd.underlying22 Tryd.underlying42 (by kernel_rfl) (by kernel_rfl) hf with ⟨hcs, _⟩ | ⟨x, l, c, m, hcs, hl, hm, hmm, hi⟩
  · simp [Value.cells] at hcs
    obtain ⟨rfl, rfl, rfl⟩ := hcs
    exact ⟨[], rfl, Nat.le_refl _, ⟨rfl, Nat.zero_le _, fun h => absurd h (Nat.lt_irrefl 0)⟩, fun s hs => by cases hs⟩
  · simp [Value.cells] at hcs
    obtain ⟨rfl, rfl, rfl⟩ := hcs
    have hlm : len ≤ m := by rw [hmm]; split <;> omega
    have key : ∀ i, i < len → ∃ s : S42, (W.cell? (x.add (i * 2)) = some (.int .i32 s.f0) ∧ W.cell? (x.add (i * 2 + 1)) = some (.int .u32 s.f1)) ∧ (Lit.int .i32 s.f0).wf = true ∧ (Lit.int .u32 s.f1).wf = true := fun i h => by
      obtain ⟨n, hf⟩ := hi i (by omega)
      obtain ⟨v0, y0, c0, t0⟩ := hf 0 _ rfl
      obtain ⟨s0, e0, _, u0⟩ := DataW.trod_int Tryd.underlying21 t0
      simp only [List.cons.injEq, and_true] at e0
      subst e0
      obtain ⟨v1, y1, c1, t1⟩ := hf 1 _ rfl
      obtain ⟨s1, e1, _, u1⟩ := DataW.trod_int Tryd.underlying38 t1
      simp only [List.cons.injEq, and_true] at e1
      subst e1
      exact ⟨⟨s0, s1⟩, ⟨c0, c1⟩, u0, u1⟩
    obtain ⟨pick, hp⟩ : ∃ pick : Nat → S42, ∀ i, i < len → (W.cell? (x.add (i * 2)) = some (.int .i32 (pick i).f0) ∧ W.cell? (x.add (i * 2 + 1)) = some (.int .u32 (pick i).f1)) ∧ (Lit.int .i32 (pick i).f0).wf = true ∧ (Lit.int .u32 (pick i).f1).wf = true := ⟨fun i => if h : i < len then Classical.choose (key i h) else z42, fun i h => by dsimp only; rw [dif_pos h]; exact Classical.choose_spec (key i h)⟩
    refine ⟨(List.range len).map pick, by simp, by simpa using hl, ⟨by simp, by unfold maxLen at hm; simp; omega, fun _ => ⟨_, rfl, fun j q hq => ?_⟩⟩, fun s hs => ?_⟩
    rotate_left
    · obtain ⟨j, hj, rfl⟩ := List.mem_map.1 hs
      exact (hp j (List.mem_range.1 hj)).2
    have hj : j < len := by
      have := (List.getElem?_eq_some_iff.1 hq).1
      simpa using this
    obtain rfl : pick j = q := by simpa [hj] using hq
    refine ⟨_, rfl, k42_mk W _, fun i u hu => ?_⟩
    obtain ⟨d0, d1⟩ := (hp j hj).1
    match i, hu with
    | 0, hu => obtain rfl := Option.some.inj hu; exact d0
    | 1, hu => obtain rfl := Option.some.inj hu; exact d1
theorem open_S33 {H : Type} {enc : TypeId × Value → H} {W : World} {a : Option Addr} {len cap : Nat} {D : DataW H} {p : List MemPlace} (h : DataW.Trod enc Tryd.prog W 0 (fun _ => true) true 33 (.slice a len cap) D p) : ∃ l : List ByteArray, len = l.length ∧ l.length ≤ cap ∧ Kd.C Kd.string W a l.length l := by
  obtain ⟨fuel, hf⟩ := h
  rcases Go.Deep.open_strs Tryd.underlying33 Tryd.underlying9 (by kernel_rfl) hf with ⟨hcs, _⟩ | ⟨x, l, c, m, Sx, hcs, _, hl, hm, hmm, _, hi⟩
  · simp [Value.cells] at hcs
    obtain ⟨rfl, rfl, rfl⟩ := hcs
    exact ⟨[], rfl, Nat.le_refl _, rfl, Nat.zero_le _, fun h => absurd h (Nat.lt_irrefl 0)⟩
  · simp [Value.cells] at hcs
    obtain ⟨rfl, rfl, rfl⟩ := hcs
    have hlm : len ≤ m := by rw [hmm]; split <;> omega
    refine ⟨(List.range len).map Sx, by simp, by simpa using hl, ?_⟩
    exact Kd.C_of_reads (d := ByteArray.empty) (h1 := fun _ => rfl) ⟨by simp, by unfold maxLen at hm; simp; omega, fun _ => ⟨_, rfl, fun j hj => by
      rw [List.length_map, List.length_range] at hj
      rw [(hi j (by omega)).1]
      simp [List.getD, hj]⟩⟩

/-- What the walk gives for every argument and every world. -/
theorem contract (H : Type) (enc : TypeId × Value → H) (W : World) (base : Nat) (args : Array Value) (ds gs : List (DataW H)) (before : List MemPlace)
    (hval : ∀ (j : Nat) t v, Tryd.f15.params[j]? = some t → args[j]? = some v → Value.okWide Tryd.prog W .any base t v)
    (hW : DataW.Whole enc Tryd.prog Tryd.f15.params.toList Rows.alphabetSortedSpec.vars false W args.toList ds gs before) (hL : laidMetH Tryd.prog Rows.alphabetSortedRow.laid W)
    (hsz : (DataW.weightsEach Tryd.prog (Tryd.f15.params.toList ++ Rows.alphabetSortedSpec.plain.varTypes Tryd.prog) (ds ++ gs)).all (· ≤ reachBytes) = true) :
    Calls Tryd.prog 15 args W fun e W' => ∃ v, e = .returned v ∧ Rows.alphabetSortedSpec.post enc Tryd.prog Tryd.f15 false true false false W args v W' := by
  have hW' := hW
  obtain ⟨p, q, hA0, hV, rfl, hfz, hnd⟩ := hW
  have hA : DataW.TrodAll enc Tryd.prog W 0 (fun _ => true) true Tryd.f15.params.toList args.toList ds p := hA0
  rw [Tryd.params15] at hA hval hsz
  obtain ⟨v0, vs0, d0, ds0, p0, q0, hargs, rfl, rfl, h0, r0⟩ := trodAll_cons hA
  obtain ⟨v1, vs1, d1, ds1, p1, q1, rfl, rfl, rfl, h1, r1⟩ := trodAll_cons r0
  obtain ⟨v2, vs2, d2, ds2, p2, q2, rfl, rfl, rfl, h2, r2⟩ := trodAll_cons r1
  obtain ⟨rfl, rfl, rfl⟩ := trodAll_nil r2
  obtain rfl : args = #[v0, v1, v2] := by cases args; simp_all
  obtain ⟨rfl, rfl⟩ := trodVars_none hV
  obtain ⟨A0, len0, cap0, rfl⟩ := okWide_slice Tryd.underlying22 (hval 0 22 v0 rfl rfl)
  have k0 := h0
  have lt0 : ∀ x ∈ p0, x.block < W.heap.size := by obtain ⟨m, hm⟩ := k0; exact DataW.trod_lt m _ _ _ hm
  obtain ⟨a0, rfl, hc0, g0, q0⟩ := open_T42 h0
  obtain ⟨A1, len1, cap1, rfl⟩ := okWide_slice Tryd.underlying33 (hval 1 33 v1 rfl rfl)
  have k1 := h1
  have lt1 : ∀ x ∈ p1, x.block < W.heap.size := by obtain ⟨m, hm⟩ := k1; exact DataW.trod_lt m _ _ _ hm
  obtain ⟨a1, rfl, hc1, g1⟩ := open_S33 h1
  have k2 := h2
  have lt2 : ∀ x ∈ p2, x.block < W.heap.size := by obtain ⟨m, hm⟩ := k2; exact DataW.trod_lt m _ _ _ hm
  obtain ⟨a2, rfl, rfl, rfl, y2⟩ := open_string Tryd.underlying9 (hval 2 9 v2 rfl rfl) h2
  have w2 : a2.size ≤ 140737488351232 := by
    have z := sized_string hsz (j := 2) (t := 9) rfl rfl
    rw [Array.length_toList] at z
    exact z
  clear hA0 hnd hfz
  obtain ⟨k, h⟩ := Pure.AlphabetSorted a0 a1 a2 (Pure.good_of q0) g1.2.1
  have hG : C.Glob W := tables hL
  refine (C.pentaglotlaw01_AlphabetSorted.calls k _ _ a0 _ _ a1 a2 true W g0 hc0 g1 hc1 hG h).mono ?_
  rintro e W' ⟨rfl, bel⟩
  exact ⟨_, rfl, _, _, _, [], _, [], hW', trodAll_mk1 (shut_bool Tryd.underlying4 _), (trodAll_cons_mk (Below.trod laidOut (by kernel_rfl) (of_decide_eq_true (by kernel_rfl)) k0 bel lt0) (trodAll_cons_mk (Below.trod laidOut (by kernel_rfl) (of_decide_eq_true (by kernel_rfl)) k1 bel lt1) (trodAll_cons_mk (Below.trod laidOut (by kernel_rfl) (of_decide_eq_true (by kernel_rfl)) k2 bel lt2) trodAll_mk0))), rfl, bel.frame _, fun h => by cases h⟩

/-- A world for the witness: the settled one, the table's block holding what its initialiser lays. -/
noncomputable def laidWorld (os : Os) : World :=
  { World.holding Tryd.prog os ⟨#[], #[], []⟩ with heap := (((World.holding Tryd.prog os ⟨#[], #[], []⟩).heap.modify 0 fun | .cells _ t frozen => .cells (Go.Lib.firstTab.map fun z => Value.int .u8 z).toArray t frozen | o => o).modify 1 fun | .cells _ t frozen => .cells ((List.range 16).flatMap fun i => [Value.int .u8 (Go.Lib.accLo i), Value.int .u8 (Go.Lib.accHi i)]).toArray t frozen | o => o) }
theorem laid_met (os : Os) : laidMet Tryd.prog Rows.alphabetSortedRow.laid ((laidWorld os).forCall (fun _ _ => 0) ⟨#[], #[.slice none 0 0, .slice none 0 0, .string ByteArray.empty], []⟩).memory :=
  (Go.LaidIn.of_run (l := [("unicode/utf8.acceptRanges", Rows.laid_unicode_utf8_acceptRanges), ("unicode/utf8.first", Rows.laid_unicode_utf8_first)]) [0, 1] 8 (by kernel_rfl) (by kernel_rfl) (by kernel_rfl) (by kernel_rfl)).met
theorem reads (os : Os) {H : Type} (enc : TypeId × Value → H) : ∃ places, DataW.whole enc Tryd.prog ((laidWorld os).forCall (fun _ _ => 0) ⟨#[], #[.slice none 0 0, .slice none 0 0, .string ByteArray.empty], []⟩).memory Tryd.f15.params.toList Rows.alphabetSortedSpec.vars false #[(.slice none 0 0 : Value), (.slice none 0 0 : Value), (.string ByteArray.empty : Value)].toList 8 = some ([.nil, .nil, .lit (.string [])], [], places) :=
  ⟨[], by kernel_rfl⟩
set_option maxRecDepth 100000 in
theorem lifted (os : Os) (started : os.Started) (H : Type) (enc : TypeId × Value → H) (F : Stop.Interp) :
    ReturnsInHanded {} Tryd.checked os 15 .any ((OpenSpec.ofChange Rows.alphabetSortedSpec).preRow enc Tryd.prog Tryd.f15 Rows.alphabetSortedRow.domain false Rows.alphabetSortedRow.laid) (((OpenSpec.ofChange Rows.alphabetSortedSpec).at F).post enc Tryd.prog Tryd.f15 false true false false) := by
  obtain ⟨places, hx⟩ := reads os enc
  refine returnsInHanded_of_row (C := Tryd.checked) (s := OpenSpec.ofChange Rows.alphabetSortedSpec) own started (by kernel_rfl) Tryd.func15
    (witness_row_at (enc := enc) (C := Tryd.checked) false (laidWorld os) #[.slice none 0 0, .slice none 0 0, .string ByteArray.empty] rfl (by kernel_rfl) (by kernel_rfl) (by kernel_rfl)
      (OpenSpec.preRow_of_cond 8 hx (by kernel_rfl) (fun k hk => by cases hk) (by kernel_rfl) (laid_met os))) ?_
  intro W base args ds gs before hval hW _ _ hsz hL _ _
  exact contract H enc W base args ds gs before hval hW hL hsz
theorem said : Rows.AlphabetSortedSaid :=
  OpenClaim.holds_of_cond 15 Tryd.f15 rfl rfl rfl rfl rfl rfl rfl ⟨rfl, rfl, rfl, rfl, rfl⟩ rfl rfl rfl rfl rfl (by kernel_rfl) Tryd.func15 (by kernel_rfl)
    (of_decide_eq_true (by kernel_rfl)) (by unfold Func.isWrapper; first | (rw [if_pos (by decide +kernel)]; kernel_rfl) | (rw [if_neg (by decide +kernel)]; exact ⟨rfl, rfl⟩))
    (fun os started H enc _ F => by rw [OpenClaim.pre_eq_preRow]; exact lifted os started H enc F)
theorem plain (f : FuncId) (fn : Func) (hf : Tryd.pinned.checked.prog.funcNamed "pentaglot/pentaglotlaw01.AlphabetSorted" = some f) (hfn : Tryd.pinned.checked.prog.funcs[f]? = some fn) :
    false = Tryd.pinned.checked.prog.looks [] ∧ ∀ (j : Nat) t, fn.params[j]? = some t → Tryd.pinned.checked.prog.wantsStandIn t = false := by
  obtain rfl : f = 15 := Option.some.inj ((show Tryd.prog.funcNamed "pentaglot/pentaglotlaw01.AlphabetSorted" = some 15 by kernel_rfl).symm.trans hf) |>.symm
  obtain rfl : fn = Tryd.f15 := (Option.some.inj (Tryd.func15.symm.trans hfn)).symm
  refine ⟨by kernel_rfl, fun j t ht => ?_⟩
  rw [Tryd.params15] at ht
  have hm : t ∈ [22, 33, 9] := by simpa using Array.mem_of_getElem? ht
  have hall : ([22, 33, 9].all fun u => !Tryd.prog.wantsStandIn u) = true := by kernel_rfl
  exact (show Tryd.prog.wantsStandIn t = false by simpa using List.all_eq_true.1 hall t hm)
theorem card : Rows.AlphabetSortedCardSaid :=
  Claim7.holds_tied_plain_at .later [] _ _ _ _ said (fun _ h => by cases h) (by kernel_rfl) (fun _ h => by cases h) alphabetSorted_row_tie rfl ⟨rfl, rfl⟩ (by kernel_rfl) rfl plain (by kernel_rfl)
#print axioms card
end Go.Proofs.YtpgeimihmkampaaDoor.alphabetSorted
namespace Go.Proofs.YtpgeimihmkampaaDoor
/-- The card, under a short name, for the claim. -/
theorem alphabetSorted_holds : Rows.AlphabetSortedCardSaid := alphabetSorted.card
end Go.Proofs.YtpgeimihmkampaaDoor
