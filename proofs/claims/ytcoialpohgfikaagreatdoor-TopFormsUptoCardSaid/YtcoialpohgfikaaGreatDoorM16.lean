/- Proved: for every morphology, every number of a lexeme and every number of a cell that together hold at most 1048576 values and letters, the law TopForms returns true and leaves its arguments as they were. -/
import Derived.Test.YtcoialpohgfikaaGreatDoorCards
import Derived.Test.YtcoialpohgfikaaGreatDoorTie
import Derived.Test.YtcoialpohgfikaaGreatDoorM13
import Derived.Test.YtcoialpohgfikaaGreatDoorM14
import Derived.Test.YtcoialpohgfikaaGreatDoorM15
import Derived.WalkKit
import Derived.ProofKit
import Derived.OpenShut
import Derived.ShutString
import Derived.ChangeOld
import Derived.Below
import Derived.SizedLaws
import Derived.Carry
import Derived.Lib.SmallJoins
import Derived.Deep.DeepHandedRow
import Derived.Lib.LaidTab
import Derived.Lib.LaidU8T
import Derived.Lib.LaidIn
import Derived.PinnedBridge
set_option linter.unusedVariables false
namespace Go.Proofs.YtcoialpohgfikaaGreatDoor.topFormsUpto
open Go.ChangeShapes Go.WideShapes Go.ChangeAt Go.RowKit Go.Joins Go.Proofs.YtcoialpohgfikaaGreatDoor.C Go.Proofs.YtcoialpohgfikaaGreatDoor.Nest Go.Proofs.YtcoialpohgfikaaGreatDoorW.PrintWords
open Go.ChangeMaps (open_string shut_string)
theorem own : ownKnob Tryz.prog.godebug = none := by kernel_rfl
theorem laidOut : laidOutB Tryz.prog = true := by kernel_rfl
theorem accepts : (Rows.laid_unicode_utf8_acceptRanges : DataW Unit) = Go.Lib.acceptData := by kernel_rfl
theorem firsts : (Rows.laid_unicode_utf8_first : DataW Unit) = Go.Lib.firstData := by kernel_rfl
theorem tables {W : World} (h : laidMetH Tryz.prog Rows.topFormsUptoRow.laid W) : C.Glob W :=
 Go.Proofs.utf8Tabs_of_readsT (Go.Proofs.U8Types.of196 C.laysValid) ⟨by kernel_rfl, by kernel_rfl, by kernel_rfl, by kernel_rfl, by kernel_rfl, by kernel_rfl, by kernel_rfl⟩
  (firsts ▸ Go.Lib.laidMet.reads h (.tail _ (.head _))) (accepts ▸ Go.Lib.laidMet.reads h (.head _))
section
variable {H : Type} {enc : TypeId × Value → H} {W : World}
def B65 (x : S65) : Prop := x.f0.size ≤ 1048576 ∧ x.f1.size ≤ 1048576
theorem o9 : Opens H enc Tryz.prog W Kd.string 9 1 (fun s => s.size ≤ 1048576) := opens_string Tryz.underlying9
theorem o4 : Opens H enc Tryz.prog W Kd.bool 4 1 (fun _ => True) := opens_bool Tryz.underlying4
theorem o21 : Opens H enc Tryz.prog W (Kd.int .i32) 21 1 (fun n => (Lit.int .i32 n).wf = true) := opens_int Tryz.underlying21
theorem o46 : Opens H enc Tryz.prog W (Kd.int .u32) 46 1 (fun n => (Lit.int .u32 n).wf = true) := opens_int Tryz.underlying46
theorem o65 : Opens H enc Tryz.prog W k65 65 3 B65 :=
  opens_struct (fun x : S65 => (x.f0, x.f1)) (fun y => ⟨y.1, y.2⟩) (fun _ => rfl) Tryz.underlying65 (by kernel_rfl) (by kernel_rfl) rfl (opensL_cons o9 (opensL_one o9))
theorem o32 : Opens H enc Tryz.prog W (Kd.slice 65 k65) 32 1 (fun l => 3 * l.length ≤ 1048576 ∧ ∀ x ∈ l, B65 x) := opens_slice Tryz.underlying32 (by kernel_rfl) o65
def B34 (x : S34) : Prop := x.f0.size ≤ 1048576 ∧ x.f1.size ≤ 1048576 ∧ x.f2.size ≤ 1048576 ∧ x.f3.size ≤ 1048576 ∧ 3 * x.f4.length ≤ 1048576 ∧ ∀ y ∈ x.f4, B65 y
theorem o34 : Opens H enc Tryz.prog W k34 34 6 B34 :=
  opens_struct (fun x : S34 => (x.f0, x.f1, x.f2, x.f3, x.f4)) (fun y => ⟨y.1, y.2.1, y.2.2.1, y.2.2.2.1, y.2.2.2.2⟩) (fun _ => rfl) Tryz.underlying34 (by kernel_rfl) (by kernel_rfl) rfl (opensL_cons o9 (opensL_cons o9 (opensL_cons o9 (opensL_cons o9 (opensL_one o32)))))
theorem o25 : Opens H enc Tryz.prog W (Kd.slice 34 k34) 25 1 (fun l => 6 * l.length ≤ 1048576 ∧ ∀ x ∈ l, B34 x) := opens_slice Tryz.underlying25 (by kernel_rfl) o34
theorem o49 : Opens H enc Tryz.prog W (Kd.slice 9 Kd.string) 49 1 (fun l => 1 * l.length ≤ 1048576 ∧ ∀ x ∈ l, x.size ≤ 1048576) := opens_slice Tryz.underlying49 (by kernel_rfl) o9
def B55 (x : S55) : Prop := x.f0.size ≤ 1048576 ∧ 1 * x.f1.length ≤ 1048576 ∧ ∀ y ∈ x.f1, y.size ≤ 1048576
theorem o55 : Opens H enc Tryz.prog W k55 55 3 B55 :=
  opens_struct (fun x : S55 => (x.f0, x.f1)) (fun y => ⟨y.1, y.2⟩) (fun _ => rfl) Tryz.underlying55 (by kernel_rfl) (by kernel_rfl) rfl (opensL_cons o9 (opensL_one o49))
theorem o35 : Opens H enc Tryz.prog W (Kd.slice 55 k55) 35 1 (fun l => 3 * l.length ≤ 1048576 ∧ ∀ x ∈ l, B55 x) := opens_slice Tryz.underlying35 (by kernel_rfl) o55
def B79 (x : S79) : Prop := (3 * x.f0.length ≤ 1048576 ∧ ∀ y ∈ x.f0, B65 y) ∧ x.f1.size ≤ 1048576 ∧ x.f2.size ≤ 1048576
theorem o79 : Opens H enc Tryz.prog W k79 79 4 B79 :=
  opens_struct (fun x : S79 => (x.f0, x.f1, x.f2)) (fun y => ⟨y.1, y.2.1, y.2.2⟩) (fun _ => rfl) Tryz.underlying79 (by kernel_rfl) (by kernel_rfl) rfl (opensL_cons o32 (opensL_cons o9 (opensL_one o9)))
def B80 (l : List S79) : Prop := 4 * l.length ≤ 1048576 ∧ ∀ x ∈ l, B79 x
theorem o80 : Opens H enc Tryz.prog W (Kd.slice 79 k79) 80 1 B80 := opens_slice Tryz.underlying80 (by kernel_rfl) o79
theorem o36 : Opens H enc Tryz.prog W (Kd.slice 80 (Kd.slice 79 k79)) 36 1 (fun l => 1 * l.length ≤ 1048576 ∧ ∀ x ∈ l, B80 x) := opens_slice Tryz.underlying36 (by kernel_rfl) o80
def B38 (x : S38) : Prop := x.f0.size ≤ 1048576 ∧ (3 * x.f1.length ≤ 1048576 ∧ ∀ y ∈ x.f1, B55 y) ∧ 1 * x.f2.length ≤ 1048576 ∧ ∀ y ∈ x.f2, B80 y
theorem o38 : Opens H enc Tryz.prog W k38 38 4 B38 :=
  opens_struct (fun x : S38 => (x.f0, x.f1, x.f2)) (fun y => ⟨y.1, y.2.1, y.2.2⟩) (fun _ => rfl) Tryz.underlying38 (by kernel_rfl) (by kernel_rfl) rfl (opensL_cons o9 (opensL_cons o35 (opensL_one o36)))
theorem o24 : Opens H enc Tryz.prog W (Kd.slice 38 k38) 24 1 (fun l => 4 * l.length ≤ 1048576 ∧ ∀ x ∈ l, B38 x) := opens_slice Tryz.underlying24 (by kernel_rfl) o38
def B48 (x : S48) : Prop := (Lit.int .i32 x.f0).wf = true ∧ (Lit.int .u32 x.f1).wf = true
theorem o48 : Opens H enc Tryz.prog W k48 48 3 B48 :=
  opens_struct (fun x : S48 => (x.f0, x.f1)) (fun y => ⟨y.1, y.2⟩) (fun _ => rfl) Tryz.underlying48 (by kernel_rfl) (by kernel_rfl) rfl (opensL_cons o21 (opensL_one o46))
theorem o22 : Opens H enc Tryz.prog W (Kd.slice 48 k48) 22 1 (fun l => 3 * l.length ≤ 1048576 ∧ ∀ x ∈ l, B48 x) := opens_slice Tryz.underlying22 (by kernel_rfl) o48
def B91 (x : S91) : Prop := (Lit.int .u32 x.f0).wf = true ∧ x.f1.size ≤ 1048576 ∧ True ∧ True
theorem o91 : Opens H enc Tryz.prog W k91 91 5 B91 :=
  opens_struct (fun x : S91 => (x.f0, x.f1, x.f2, x.f3)) (fun y => ⟨y.1, y.2.1, y.2.2.1, y.2.2.2⟩) (fun _ => rfl) Tryz.underlying91 (by kernel_rfl) (by kernel_rfl) rfl (opensL_cons o46 (opensL_cons o9 (opensL_cons o4 (opensL_one o4))))
theorem o87 : Opens H enc Tryz.prog W (Kd.slice 91 k91) 87 1 (fun l => 5 * l.length ≤ 1048576 ∧ ∀ x ∈ l, B91 x) := opens_slice Tryz.underlying87 (by kernel_rfl) o91
def B89 (x : S89) : Prop := (Lit.int .i32 x.f0).wf = true ∧ x.f1.size ≤ 1048576 ∧ (5 * x.f2.length ≤ 1048576 ∧ ∀ y ∈ x.f2, B91 y) ∧ (5 * x.f3.length ≤ 1048576 ∧ ∀ y ∈ x.f3, B91 y) ∧ True ∧ True
theorem o89 : Opens H enc Tryz.prog W k89 89 7 B89 :=
  opens_struct (fun x : S89 => (x.f0, x.f1, x.f2, x.f3, x.f4, x.f5)) (fun y => ⟨y.1, y.2.1, y.2.2.1, y.2.2.2.1, y.2.2.2.2.1, y.2.2.2.2.2⟩) (fun _ => rfl) Tryz.underlying89 (by kernel_rfl) (by kernel_rfl) rfl (opensL_cons o21 (opensL_cons o9 (opensL_cons o87 (opensL_cons o87 (opensL_cons o4 (opensL_one o4))))))
theorem o23 : Opens H enc Tryz.prog W (Kd.slice 89 k89) 23 1 (fun l => 7 * l.length ≤ 1048576 ∧ ∀ x ∈ l, B89 x) := opens_slice Tryz.underlying23 (by kernel_rfl) o89
abbrev KW := Kd.pair (Kd.slice 48 k48) (Kd.pair (Kd.slice 89 k89) (Kd.pair (Kd.slice 38 k38) (Kd.slice 34 k34)))
def B27 (y : List S48 × List S89 × List S38 × List S34) : Prop := (3 * y.1.length ≤ 1048576 ∧ ∀ x ∈ y.1, B48 x) ∧ (7 * y.2.1.length ≤ 1048576 ∧ ∀ x ∈ y.2.1, B89 x) ∧ (4 * y.2.2.1.length ≤ 1048576 ∧ ∀ x ∈ y.2.2.1, B38 x) ∧ (6 * y.2.2.2.length ≤ 1048576 ∧ ∀ x ∈ y.2.2.2, B34 x)
theorem o27 : Opens H enc Tryz.prog W (Kd.iso KW (fun y => y)) 27 5 B27 :=
  opens_struct (fun y => y) (fun y => y) (fun _ => rfl) Tryz.underlying27 (by kernel_rfl) (by kernel_rfl) rfl (opensL_cons o22 (opensL_cons o23 (opensL_cons o24 (opensL_one o25))))
end
theorem bF_of {x : S65} (h : B65 x) : bF x := ⟨by have := h.1; omega, by have := h.2; omega⟩
theorem bw_of {l0 : List S48} {l1 : List S89} {l2 : List S38} {l3 : List S34} (h : B27 (l0, l1, l2, l3)) : BW l0 l1 l2 l3 := by
 obtain ⟨⟨h0, h1⟩, ⟨h2, h3⟩, ⟨h4, h5⟩, ⟨h6, h7⟩⟩ := h
 dsimp only at h0 h1 h2 h3 h4 h5 h6 h7
 refine ⟨List.all_eq_true.2 fun x hx => (h1 x hx).1, by omega, fun r hr => ?_, by omega, fun p hp => ?_, by omega, fun x hx => ?_, by omega⟩
 ·obtain ⟨_, g1, ⟨g2, g3⟩, ⟨g4, g5⟩, _, _⟩ := h3 r hr
  exact ⟨by omega, smallP_of fun x hx => by have := (g3 x hx).2.1; omega, smallP_of fun x hx => by have := (g5 x hx).2.1; omega, by omega, by omega⟩
 ·obtain ⟨g1, ⟨g2, g3⟩, g4, g5⟩ := h5 p hp
  refine ⟨by omega, fun d hd => ?_, by omega, by omega, fun l hl => ?_⟩
  ·obtain ⟨d1, d2, d3⟩ := g3 d hd
   exact ⟨by omega, by omega, fun v hv => by have := d3 v hv; omega⟩
  obtain ⟨e1, e2⟩ := g5 l hl
  refine ⟨by omega, fun a ha => ?_⟩
  obtain ⟨⟨a1, a2⟩, a3, a4⟩ := e2 a ha
  exact ⟨by omega, fun x hx => bF_of (a2 x hx), by omega, by omega⟩
 obtain ⟨g1, g2, g3, g4, g5, g6⟩ := h7 x hx
 exact ⟨by omega, by omega, by omega, by omega, by omega, fun y hy => bF_of (g6 y hy)⟩
set_option maxRecDepth 100000 in
theorem contract (H : Type) (enc : TypeId × Value → H) (W : World) (base : Nat) (args : Array Value) (ds gs : List (DataW H)) (before : List MemPlace)
  (hval : ∀ (j : Nat) t v, Tryz.f3.params[j]? = some t → args[j]? = some v → Value.okWide Tryz.prog W .any base t v)
  (hW : DataW.Whole enc Tryz.prog Tryz.f3.params.toList Rows.topFormsSpec.vars false W args.toList ds gs before) (hL : laidMetH Tryz.prog Rows.topFormsUptoRow.laid W)
  (hk : Rows.uptoSmall H (ds ++ gs) = true) :
  Calls Tryz.prog 3 args W fun e W' => ∃ v, e = .returned v ∧ Rows.topFormsSpec.post enc Tryz.prog Tryz.f3 false true false false W args v W' := by
 have HK := Aside0.mk hk
 clear hk
 have hW' := hW
 obtain ⟨p, q, hA0, hV, rfl, hfz, hnd⟩ := hW
 have hA : DataW.TrodAll enc Tryz.prog W 0 (fun _ => true) true Tryz.f3.params.toList args.toList ds p := hA0
 rw [Tryz.params3] at hA hval
 obtain ⟨v0, vs0, d0, ds0, p0, q0, hargs, rfl, rfl, h0, r0⟩ := trodAll_cons hA
 obtain ⟨v1, vs1, d1, ds1, p1, q1, rfl, rfl, rfl, h1, r1⟩ := trodAll_cons r0
 obtain ⟨v2, vs2, d2, ds2, p2, q2, rfl, rfl, rfl, h2, r2⟩ := trodAll_cons r1
 obtain ⟨rfl, rfl, rfl⟩ := trodAll_nil r2
 obtain rfl : args = #[v0, v1, v2] := by cases args; simp_all
 obtain ⟨rfl, rfl⟩ := trodVars_none hV
 have k0 := h0
 have lt0 : ∀ x ∈ p0, x.block < W.heap.size := by obtain ⟨m, hm⟩ := k0; exact DataW.trod_lt m _ _ _ hm
 have k1 := h1
 have lt1 : ∀ x ∈ p1, x.block < W.heap.size := by obtain ⟨m, hm⟩ := k1; exact DataW.trod_lt m _ _ _ hm
 obtain ⟨a1, rfl, rfl, rfl, w1⟩ := open_int Tryz.underlying3 (hval 1 3 v1 rfl rfl) h1
 have k2 := h2
 have lt2 : ∀ x ∈ p2, x.block < W.heap.size := by obtain ⟨m, hm⟩ := k2; exact DataW.trod_lt m _ _ _ hm
 obtain ⟨a2, rfl, rfl, rfl, w2⟩ := open_int Tryz.underlying3 (hval 2 3 v2 rfl rfl) h2
 obtain ⟨cs, rfl, hcs⟩ := okWide_struct Tryz.underlying27 (hval 0 27 v0 rfl rfl)
 have hbulk : Rows.uptoBulk d0 ≤ 1048576 := by
  have h := of_decide_eq_true HK.out
  simp only [List.append_nil, Rows.uptoBulkAll] at h
  omega
 obtain ⟨⟨l0, l1, l2, l3⟩, hK, hB⟩ : ∃ y : List S48 × List S89 × List S38 × List S34, KW.K W y cs.toList ∧ B27 y := by
  obtain ⟨fuel, hf⟩ := h0
  obtain ⟨y, h1, _, h3⟩ := o27 _ _ _ hf
  exact ⟨y, h1, h3 hbulk⟩
 obtain ⟨_, _, e0, ⟨A0, c0, rfl, hc0, hr0⟩, ⟨_, _, rfl, ⟨A1, c1, rfl, hc1, hr1⟩, ⟨_, _, rfl, ⟨A2, c2, rfl, hc2, hr2⟩, ⟨A3, c3, rfl, hc3, hr3⟩⟩⟩⟩ := hK
 obtain rfl : cs = #[.slice A0 l0.length c0, .slice A1 l1.length c1, .slice A2 l2.length c2, .slice A3 l3.length c3] := Array.toList_inj.1 e0
 have hbw := bw_of hB
 clear hA0 hnd hfz
 obtain ⟨k, few, chk, hfew, hdim, hchk, hround⟩ := topForms_pure l0 l1 l2 l3 a1 hbw
 have hG : C.Glob W := tables hL
 refine (C.pentaglottop_TopForms.calls k A0 c0 l0 A1 c1 l1 A2 c2 l2 A3 c3 l3 a1 a2 few chk W hr0 hc0 hr1 hc1 hr2 hc2 hr3 hc3 hG hbw.np hfew hdim hchk hround).mono ?_
 rintro e W' ⟨rfl, bel⟩
 exact ⟨_, rfl, _, _, _, [], _, [], hW', trodAll_mk1 (shut_bool Tryz.underlying4 _), (trodAll_cons_mk (Below.trod laidOut (by kernel_rfl) (of_decide_eq_true (by kernel_rfl)) k0 bel lt0) (trodAll_cons_mk (Below.trod laidOut (by kernel_rfl) (of_decide_eq_true (by kernel_rfl)) k1 bel lt1) (trodAll_cons_mk (Below.trod laidOut (by kernel_rfl) (of_decide_eq_true (by kernel_rfl)) k2 bel lt2) trodAll_mk0))), rfl, bel.frame _, fun h => by cases h⟩
noncomputable def laidWorld (os : Os) : World :=
  { World.holding Tryz.prog os ⟨#[], #[], []⟩ with heap := (((World.holding Tryz.prog os ⟨#[], #[], []⟩).heap.modify 0 fun | .cells _ t frozen => .cells (Go.Lib.firstTab.map fun z => Value.int .u8 z).toArray t frozen | o => o).modify 1 fun | .cells _ t frozen => .cells ((List.range 16).flatMap fun i => [Value.int .u8 (Go.Lib.accLo i), Value.int .u8 (Go.Lib.accHi i)]).toArray t frozen | o => o) }
abbrev wit : Array Value := #[.agg #[.slice none 0 0, .slice none 0 0, .slice none 0 0, .slice none 0 0], .int .i64 0, .int .i64 0]
theorem laid_met (os : Os) : laidMet Tryz.prog Rows.topFormsUptoRow.laid ((laidWorld os).forCall (fun _ _ => 0) ⟨#[], wit, []⟩).memory :=
  (Go.LaidIn.of_run (l := [("unicode/utf8.acceptRanges", Rows.laid_unicode_utf8_acceptRanges), ("unicode/utf8.first", Rows.laid_unicode_utf8_first)]) [0, 1] 8 (by kernel_rfl) (by kernel_rfl) (by kernel_rfl) (by kernel_rfl)).met
theorem reads (os : Os) {H : Type} (enc : TypeId × Value → H) : ∃ places, DataW.whole enc Tryz.prog ((laidWorld os).forCall (fun _ _ => 0) ⟨#[], wit, []⟩).memory Tryz.f3.params.toList Rows.topFormsSpec.vars false wit.toList 8 = some ([.agg [.nil, .nil, .nil, .nil], .lit (.int .i64 0), .lit (.int .i64 0)], [], places) :=
  ⟨[], by kernel_rfl⟩
set_option maxRecDepth 100000 in
theorem lifted (os : Os) (started : os.Started) (H : Type) (enc : TypeId × Value → H) (F : Stop.Interp) :
  ReturnsInHanded {} Tryz.checked os 3 .any ((Rows.OpenSpec.upto Rows.topFormsSpec).preRow enc Tryz.prog Tryz.f3 Rows.topFormsUptoRow.domain false Rows.topFormsUptoRow.laid) (((Rows.OpenSpec.upto Rows.topFormsSpec).at F).post enc Tryz.prog Tryz.f3 false true false false) := by
 obtain ⟨places, hx⟩ := reads os enc
 refine returnsInHanded_of_row (C := Tryz.checked) (s := Rows.OpenSpec.upto Rows.topFormsSpec) own started (by kernel_rfl) Tryz.func3
  (witness_row_at (enc := enc) (C := Tryz.checked) false (laidWorld os) wit rfl (by kernel_rfl) (by kernel_rfl) (by kernel_rfl)
   (OpenSpec.preRow_of_cond 8 hx (by kernel_rfl) (fun k hk => by cases hk; kernel_rfl) (by kernel_rfl) (laid_met os))) ?_
 intro W base args ds gs before hval hW _ hcond _ hL _ _
 exact contract H enc W base args ds gs before hval hW hL (hcond _ rfl)
theorem said : Rows.TopFormsUptoSaid :=
 OpenClaim.holds_of_cond 3 Tryz.f3 rfl rfl rfl rfl rfl rfl rfl ⟨rfl, rfl, rfl, rfl, rfl⟩ rfl rfl rfl rfl rfl (by kernel_rfl) Tryz.func3 (by kernel_rfl)
  (of_decide_eq_true (by kernel_rfl)) (by unfold Func.isWrapper; first | (rw [if_pos (by decide +kernel)]; kernel_rfl) | (rw [if_neg (by decide +kernel)]; exact ⟨rfl, rfl⟩))
  (fun os started H enc _ F => by rw [OpenClaim.pre_eq_preRow]; exact lifted os started H enc F)
theorem plain (f : FuncId) (fn : Func) (hf : Tryz.pinned.checked.prog.funcNamed "pentaglot/pentaglottop.TopForms" = some f) (hfn : Tryz.pinned.checked.prog.funcs[f]? = some fn) :
  false = Tryz.pinned.checked.prog.looks [] ∧ ∀ (j : Nat) t, fn.params[j]? = some t → Tryz.pinned.checked.prog.wantsStandIn t = false := by
 obtain rfl : f = 3 := Option.some.inj ((show Tryz.prog.funcNamed "pentaglot/pentaglottop.TopForms" = some 3 by kernel_rfl).symm.trans hf) |>.symm
 obtain rfl : fn = Tryz.f3 := (Option.some.inj (Tryz.func3.symm.trans hfn)).symm
 refine ⟨by kernel_rfl, fun j t ht => ?_⟩
 rw [Tryz.params3] at ht
 have hm : t ∈ [27, 3, 3] := by simpa using Array.mem_of_getElem? ht
 have hall : ([27, 3, 3].all fun u => !Tryz.prog.wantsStandIn u) = true := by kernel_rfl
 exact (show Tryz.prog.wantsStandIn t = false by simpa using List.all_eq_true.1 hall t hm)
theorem card : Rows.TopFormsUptoCardSaid :=
  Claim7.holds_tied_plain_at .later [] _ _ _ _ said (fun _ h => by cases h) (by kernel_rfl) (fun _ h => by cases h) topFormsUpto_row_tie rfl ⟨rfl, rfl⟩ (by kernel_rfl) rfl plain (by kernel_rfl)
#print axioms card
end Go.Proofs.YtcoialpohgfikaaGreatDoor.topFormsUpto
namespace Go.Proofs.YtcoialpohgfikaaGreatDoor
theorem topFormsUpto_holds : Rows.TopFormsUptoCardSaid := topFormsUpto.card
end Go.Proofs.YtcoialpohgfikaaGreatDoor
