/- A part of the proof of TopForms, made short by a program. -/
import Derived.Test.YtcoialpohgfikaaGreatDoorM2
import Derived.Test.YtcoialpohgfikaaGreatDoorM3
import Derived.Test.YtcoialpohgfikaaGreatDoorM9
import Derived.Test.YtcoialpohgfikaaGreatDoorM4
import Derived.LoopIn
import Derived.LoopNIn
import Derived.OwnWalkIn
import Derived.RangeFuncBound
import Derived.RangeFuncCalls
import Derived.RangeFuncLeaves
import Derived.RangeFuncNested
import Derived.TacticsInMore
import Derived.Test.YtcoialpohgfikaaGreatDoorM6
namespace Go.Proofs.YtcoialpohgfikaaGreatDoor.C
open Go.RowKit Go.Proofs.YtcoialpohgfikaaGreatDoorW.PrintWords Go.Proofs.YtcoialpohgfikaaGreatDoorW.PrintLast Go.Proofs.YtcoialpohgfikaaGreatDoorW.PrintMore
attribute [local go_sem] max2_int min2_int max_two min_two max_three min_three max_four min_four
set_option linter.unusedVariables false
set_option maxHeartbeats 8000000
set_option maxRecDepth 100000
set_option linter.unusedSimpArgs false
def onePost (S : Nat → Prop) (I1 : World → Prop) (W : World) : Exit → Act → World → Prop
  | .normal, _, W' => Off S W W' ∧ I1 W'
  | _, _, _ => False
theorem Turn.lower {lo lo' : Nat} {W W' : World} (h : Turn lo' W W') (hl : lo ≤ lo') : Turn lo W W' := ⟨h.os, h.tape, h.output, h.size, fun k o hk hh => h.block k o hk (hh.imp (fun x => Nat.lt_of_lt_of_le x hl) id)⟩
def IterOne (P : Program) (gf : Nat) (lb : Array Value) (S : Nat → Prop) (G : Array Value → World → Prop) (w : World) : Prop :=
  ∀ (l : Nat) (J0 J1 : World → Prop) (W : World), Below w.heap.size w W → w.heap.size + 2 ≤ W.heap.size →
    (∀ A A', J0 A → Turn W.heap.size A A' → J0 A') → (∀ A A', J1 A → Turn W.heap.size A A' → J1 A') →
    (∀ vs A, J0 A → G vs A → YieldAt Fence.wide 0 P l vs A fun e A' => e = .returned (.bool true) ∧ J1 A' ∧ Off S A A') →
    J0 W → Calls P gf (#[.func (.yield l) #[] #[]] ++ lb) W fun e W' => (∃ v, e = .returned v) ∧ J1 W'
theorem wp_rangeOne {P : Program} {g : Operand} {ps : Array Tmp} {assign body : Code} {Q : Exit → Act → World → Prop} {a : Act} {w : World}
  {gf : Nat} {lb : Array Value} (hg : a.eval g = .func (.func gf) #[] lb) (eg : ∀ args w, (callFunc gf args).run P w = .ok (.enter gf args) w)
  (lo : Nat) (hlo : lo ≤ w.heap.size) (S : Nat → Prop) (hS : ∀ k, S k → k < w.heap.size) (G : Array Value → World → Prop) (hGz : ∀ vs A, G vs A → vs.size = ps.size) (hseq : IterOne P gf lb (fun k => S k ∨ k = w.heap.size ∨ k = w.heap.size + 1) G w)
  (I0 I1 : World → Prop) (hI0 : ∀ A A', I0 A → Turn lo A A' → I0 A') (hI1 : ∀ A A', I1 A → Turn lo A A' → I1 A') (h0 : I0 w)
  (T : Act → Act → World → Prop) (hT : ∀ a' A A', T a a' A → Turn lo A A' → T a a' A')
  (hassign : ∀ (l : Nat) (vs : Array Value) (W : World) (K : Act → World → Prop), w.heap.size + 2 ≤ W.heap.size → I0 W → G vs W → (∀ a' W', Below W.heap.size W W' → T a a' W' → K a' W') →
  assign.wpIn (Fence.wide.inRound l) 0 P (Exit.then K (fun _ _ _ => False)) { tmps := (ps.zip vs).foldl (fun t (p, v) => t.setIfInBounds p v) a.tmps, defers := [] } W)
  (hbody : ∀ (l : Nat) (a' : Act) (W : World), w.heap.size + 2 ≤ W.heap.size → I0 W → T a a' W → body.wpIn (Fence.wide.inRound l) 0 P (onePost S I1 W) a' W)
  (hdone : ∀ (D : Nat) (W : World), w.heap.size ≤ D → I1 W → W.heap[D]? = some (.deferred (some [])) → Q .normal { a with defers := { target := .collected D, args := #[] } :: a.defers } W) :
  (Code.rangeFunc g ps assign body).wp P Q a w := by
 refine (wpIn_wide (n := 0)).1 (wpIn_rangeFunc ?_)
 intro fn hfn
 obtain ⟨rec, hrec⟩ : ∃ rec : LoopState → Option Code → Loop, rec = fun st pe => { state := st, pending := pe, fn, tmps := a.tmps, params := ps, assign, body, defers := w.heap.size } := ⟨_, rfl⟩
 obtain ⟨W1, hW1⟩ : ∃ W1, (w.alloc (.deferred (some []))).alloc (.loop (rec .ready none)) = W1 := ⟨_, rfl⟩
 have hsz1 : W1.heap.size = w.heap.size + 2 := by rw [← hW1]; simp
 have hL1 : W1.heap[w.heap.size + 1]? = some (.loop (rec .ready none)) := by
  rw [← hW1]; have := World.alloc_heap_new (w.alloc (.deferred (some []))) (.loop (rec .ready none)); rwa [World.size_alloc] at this
 have hK1 : W1.heap[w.heap.size]? = some (.deferred (some [])) := by
  rw [← hW1]; exact (Below.heap_alloc _ _ _ (by simp)).trans (World.alloc_heap_new w _)
 have hb1 : Below w.heap.size w W1 := by
  rw [← hW1]; exact below_alloc (below_alloc (Below.refl _ _) _) _
 have hI1' : I0 W1 := hI0 _ _ h0 (Turn.of_below hb1)
 refine ⟨w.heap.size + 1, [{ target := .collected w.heap.size, args := #[] }], W1, { target := .fn (.func gf) lb, args := #[.func (.yield (w.heap.size + 1)) #[] #[]] }, W1, gf,
  #[.func (.yield (w.heap.size + 1)) #[] #[]] ++ lb, W1, ?_, ?_, fun _ _ => trivial, ?_, (fun h => by cases h), ?_⟩
 ·rw [← hW1, hrec]; exact run_enterLoop_outer _ _ _ _ _
 ·simp only [resolve, hg]
  simp [go_sem]
 ·simp [invoke, go_sem, eg]
 refine callsIn_wide.2 ((hseq (w.heap.size + 1)
  (fun W => I0 W ∧ W.heap[w.heap.size + 1]? = some (.loop (rec .ready none)) ∧ W.heap[w.heap.size]? = some (.deferred (some [])) ∧ w.heap.size + 2 ≤ W.heap.size)
  (fun W => I1 W ∧ W.heap[w.heap.size + 1]? = some (.loop (rec .ready none)) ∧ W.heap[w.heap.size]? = some (.deferred (some [])) ∧ w.heap.size + 2 ≤ W.heap.size)
  W1 hb1 (by omega)
  (fun A A' hs hb => ⟨hI0 _ _ hs.1 (hb.lower (by omega)), hb.block _ _ hs.2.1 (.inl (by omega)), hb.block _ _ hs.2.2.1 (.inl (by omega)), Nat.le_trans hs.2.2.2 hb.size⟩)
  (fun A A' hs hb => ⟨hI1 _ _ hs.1 (hb.lower (by omega)), hb.block _ _ hs.2.1 (.inl (by omega)), hb.block _ _ hs.2.2.1 (.inl (by omega)), Nat.le_trans hs.2.2.2 hb.size⟩)
  ?_ ⟨hI1', hL1, hK1, by omega⟩).mono ?_)
 ·rintro vs W ⟨hi, hl, hk, hz⟩ hgv
  have hlt : w.heap.size + 1 < W.heap.size := (Array.getElem?_eq_some_iff.1 hl).1
  have hy := run_yield (P := P) (args := vs) hl (by rw [hrec]; exact hGz _ _ hgv)
  rw [hrec] at hy
  refine ⟨fn, _, assign, body, hy, roundIn_of_wpIn trivial (hassign _ vs W _ hz hi hgv (fun a' Wa hba hTa => ⟨_, run_beginRound (blk_below hl hba) (by rw [hrec]), ?_⟩))⟩
  have hla := blk_below hl hba
  have hka := blk_below hk hba
  have hia := hI0 _ _ hi (Turn.of_below hba)
  have hlta : w.heap.size + 1 < Wa.heap.size := (Array.getElem?_eq_some_iff.1 hla).1
  have hl2 : (Wa.putObj (w.heap.size + 1) (.loop { rec .ready none with state := .busy })).heap[w.heap.size + 1]? = some (.loop { rec .ready none with state := .busy }) := World.putObj_heap_same hlta
  have hk2 : (Wa.putObj (w.heap.size + 1) (.loop { rec .ready none with state := .busy })).heap[w.heap.size]? = some (.deferred (some [])) := (World.putObj_heap_other (by omega)).trans hka
  have ho2 : ∀ (A : World) (o' : Obj), Off (fun k => S k ∨ k = w.heap.size ∨ k = w.heap.size + 1) A (A.putObj (w.heap.size + 1) o') := fun A o' => ⟨rfl, rfl, rfl, by simp, fun k _ hk => World.putObj_heap_other (fun e => hk (.inr (.inr e)))⟩
  have ht2 : Turn lo Wa (Wa.putObj (w.heap.size + 1) (.loop { rec .ready none with state := .busy })) := Turn.putObj _ (by omega) hla rfl
  refine wpIn_mono (hbody _ a' _ (by simp; have := hba.size; omega) (hI0 _ _ hia ht2) (hT _ _ _ hTa ht2)) ?_
  rintro e a3 W3 hp
  cases e with
  | normal =>
   obtain ⟨hk3, hi3⟩ := hp
   have hl3 := hk3.blk hl2 (fun hs => by have := hS _ hs; omega)
   have hr := run_endRound (P := P) none hl3
   rw [hrec] at hr
   refine ⟨_, _, hr, rfl, ⟨?_, ?_, ?_, ?_⟩, ?_⟩
   ·exact hI1 _ _ hi3 (Turn.putObj _ (by omega) hl3 rfl)
   ·rw [hrec]; exact World.putObj_heap_same (Array.getElem?_eq_some_iff.1 hl3).1
   ·exact (World.putObj_heap_other (by omega)).trans (hk3.blk hk2 (fun hs => by have := hS _ hs; omega))
   ·have := hk3.size; have := hba.size; simp at *; omega
   exact (((Off.of_below hba).trans (ho2 Wa _)).trans (hk3.wider (fun k h => .inl h))).trans (ho2 W3 _)
  | ret => exact hp.elim
  | exit id => exact hp.elim
  | goto t => exact hp.elim
  | panic ch => exact hp.elim
  | outgrown => exact hp.elim
 rintro e W2 ⟨⟨v, rfl⟩, hi, hl, hk, hz⟩
 exact ⟨none, _, by have := run_endLoop (P := P) hl (by rw [hrec]; simp); rw [hrec] at this; exact this, hdone _ _ (Nat.le_refl _) (hI1 _ _ hi (Turn.putObj _ (by omega) hl rfl)) ((World.putObj_heap_other (by omega)).trans hk)⟩
def awA : List S48 := [⟨97, 0⟩, ⟨115, 0⟩]
def awW : ByteArray := ⟨#[97, 115]⟩
def awX : S34 := ⟨⟨#[120]⟩, ⟨#[110]⟩, awW, ⟨#[]⟩, []⟩
theorem aw_form : morphology_words_form.f 30 awA [] [] [awX] awX.f0 awX.f1 awX.f2 awX.f3 awX.f4 [] = some (awW, true) := by kernel_rfl
theorem aw_find : lexicon_Find.f [awX] ⟨#[120]⟩ = some (awX.f0, awX.f1, awX.f2, awX.f3, awX.f4, true) := by kernel_rfl
theorem aw_isword : alphabet_IsWord.f awA awW = some true := by kernel_rfl
theorem words_cells.calls (v0 v1 v2 v3 : Value) (s0 s1 s2 s3 : ByteArray) (A4 : Option Addr) (n4 c4 : Nat) (w : World) :
  Calls Tryz.prog 29 #[.agg #[v0, v1, v2, v3], .agg #[.string s0, .string s1, .string s2, .string s3, .slice A4 n4 c4]] w fun e w' => e = .returned (.func (.func 55) #[] #[.pointer (some ⟨w.heap.size + 1, 0, none⟩), .pointer (some ⟨w.heap.size, 0, none⟩)]) ∧ w' = (w.alloc (.cells #[v0, v1, v2, v3] 58)).alloc (.cells #[.string s0, .string s1, .string s2, .string s3, .slice A4 n4 c4] 34) := by
 go_enter Tryz.func29, Tryz.ntmps29
 go_wp2
 go_ret
 exact ⟨by simp, rfl⟩
theorem cells_one (S : Nat → Prop) (gx gw : Nat) (s0 s1 s2 : ByteArray) (A4 : Option Addr) (n4 c4 : Nat) (w : World) (hx : w.heap[gx]? = some (.cells #[.string s0, .string s1, .string s2, .string ⟨#[]⟩, .slice A4 n4 c4] 34 (0, 0))) :
  IterOne Tryz.prog 55 #[.pointer (some ⟨gx, 0, none⟩), .pointer (some ⟨gw, 0, none⟩)] S (fun vs _ => vs = #[.slice none 0 0]) w := by
 intro l J0 J1 W hb hz hJ0 hJ1 hY h0
 have hxc : W.cell? ⟨gx, 3, none⟩ = some (.string ⟨#[]⟩) := (blk_cell (blk_below hx hb) 3).trans rfl
 obtain ⟨fn_, tm_, as_, bo_, hy, hR⟩ := hY #[.slice none 0 0] W h0 rfl
 have HRD := am hR
 have HJ1 := am hJ1
 clear hR hY hJ0 hJ1 h0 hb hz hx
 show Calls Tryz.prog 55 #[.func (.yield l) #[] #[], .pointer (some ⟨gx, 0, none⟩), .pointer (some ⟨gw, 0, none⟩)] W _
 go_enter Tryz.func55, Tryz.ntmps55
 go_upto_region 1 with (fail)
 refine (wpIn_wide (n := 0)).1 ?_
 gi_wp2
 refine HRD.out.mono ?_
 rintro e W' ⟨rfl, hJ', hoff⟩
 have HJ' := am hJ'
 have HOF := am hoff
 clear hJ' hoff
 gi_wp2
 go_wp2
 refine bodyPost_ret (results_none rfl _ _ _) rfl ?_
 exact ⟨⟨_, rfl⟩, HJ'.out⟩
attribute [local go_sem] Oper.semAt_some
theorem awInfo9 : (Tryz.prog.info? 9).map (fun i => (i.zero, i.size, i.bytes)) = some (some (.string ⟨#[]⟩), 1, 16) := by kernel_rfl
theorem aw_cells_of_cell {w : World} {g o : Nat} {v : Value} (h : w.cell? ⟨g, o, none⟩ = some v) : ∃ cs t fr, w.heap[g]? = some (.cells cs t fr) := by
 unfold World.cell? at h
 cases hg : w.heap[g]? with
 | none => simp [hg] at h
 | some x => cases x <;> simp [hg] at h ⊢
theorem C_empty {α : Type} (d : Kd α) (w : World) (A : Option Addr) : Kd.C d w A 0 ([] : List α) := ⟨rfl, by simp, fun h => absurd h (Nat.lt_irrefl 0)⟩
theorem forms_aw (AL : Option Addr) (cL : Nat) (lA : List S48) (AX : Option Addr) (cX : Nat) (lX : List S34) (w : World) (hL : Kd.C k48 w AL lA.length lA) (hcL : lA.length ≤ cL) (hX : Kd.C k34 w AX lX.length lX) (hcX : lX.length ≤ cX) (hG : Glob w) (hA : lA = awA) (hx : lX = [awX]) :
  Calls Tryz.prog 11 #[.agg #[.slice AL lA.length cL, .slice none 0 0, .slice none 0 0, .slice AX lX.length cX], .string ⟨#[120]⟩] w fun e w' => ∃ (ad : Addr) (c : Nat), e = .returned (.tuple #[.slice (some ad) 1 c, .int .i64 0]) ∧ w'.cell? ad = some (.string awW) ∧ Below w.heap.size w w' := by
 have HFIND := am (show lexicon_Find.f lX ⟨#[120]⟩ = some (awX.f0, awX.f1, awX.f2, awX.f3, awX.f4, true) by rw [hx]; exact aw_find)
 have HFORM := am (show morphology_words_form.f 30 lA [] [] lX awX.f0 awX.f1 awX.f2 awX.f3 [] [] = some (awW, true) by rw [hA, hx]; exact aw_form)
 have HL := am hL
 have HCL := am hcL
 have HX := am hX
 have HCX := am hcX
 have HG := am hG
 clear hL hcL hX hcX hG hA hx
 refine calls_of_marks Tryz.func11 rfl ?_
 simp only [Tryz.ntmps11, List.size_toArray, List.length_cons, List.length_nil, Nat.reduceAdd, Nat.reduceSub, Array.replicate_succ, Array.replicate_zero, List.push_toArray, List.append_toArray, List.nil_append, List.cons_append]
 go_upto_region 2 with (fail)
 generalize hW : ((((w.alloc (.cells #[.slice AL lA.length cL, .slice none 0 0, .slice none 0 0, .slice AX lX.length cX] 27)).alloc (.cells #[.slice none 0 0] 49)).alloc (.cells #[.int .i64 0] 30)).alloc (.cells #[.slice AL lA.length cL, .slice none 0 0, .slice none 0 0, .slice AX lX.length cX] 58)) = W0
 have hsz : W0.heap.size = w.heap.size + 1 + 1 + 1 + 1 := by rw [← hW]; simp
 have b4 : W0.heap[w.heap.size + 1]? = some (.cells #[.slice none 0 0] 49 (0, 0)) := by
  rw [← hW]
  refine blk_alloc (blk_alloc ?_ _) _
  have := blk_new (w.alloc (.cells #[.slice AL lA.length cL, .slice none 0 0, .slice none 0 0, .slice AX lX.length cX] 27)) (.cells #[.slice none 0 0] 49)
  rwa [World.size_alloc] at this
 have b5 : W0.heap[w.heap.size + 1 + 1]? = some (.cells #[.int .i64 0] 30 (0, 0)) := by
  rw [← hW]
  refine blk_alloc ?_ _
  have := blk_new ((w.alloc (.cells #[.slice AL lA.length cL, .slice none 0 0, .slice none 0 0, .slice AX lX.length cX] 27)).alloc (.cells #[.slice none 0 0] 49)) (.cells #[.int .i64 0] 30)
  rwa [World.size_alloc, World.size_alloc] at this
 have b6 : W0.heap[w.heap.size + 1 + 1 + 1]? = some (.cells #[.slice AL lA.length cL, .slice none 0 0, .slice none 0 0, .slice AX lX.length cX] 58 (0, 0)) := by
  rw [← hW]
  have := blk_new (((w.alloc (.cells #[.slice AL lA.length cL, .slice none 0 0, .slice none 0 0, .slice AX lX.length cX] 27)).alloc (.cells #[.slice none 0 0] 49)).alloc (.cells #[.int .i64 0] 30)) (.cells #[.slice AL lA.length cL, .slice none 0 0, .slice none 0 0, .slice AX lX.length cX] 58)
  rwa [World.size_alloc, World.size_alloc, World.size_alloc] at this
 have hbl : Below w.heap.size w W0 := by
  rw [← hW]
  exact below_alloc (below_alloc (below_alloc (below_alloc (Below.refl _ _) _) _) _) _
 clear hW
 have B4 := am b4
 have B5 := am b5
 have B6 := am b6
 have HB := am hbl
 have HSZ := am hsz
 have hx63 := (blk_cell b6 3).trans rfl
 clear b4 b5 b6 hbl hsz
 go_upto_region 3 with (first | (go_at_call 22; refine (lexicon_Find.calls (fun k => k < w.heap.size) AX cX lX ⟨#[120]⟩ _ _ _ _ _ _ _ (Kd.V_mk HCX.out (Kd.F_below (Kd.C_F k34_heap HX.out) HB.out)) HFIND.out).mono ?_; rintro e w2 ⟨v1, rfl, hv, hb⟩; obtain ⟨A4, c4, rfl⟩ := Kd.V_slice hv; have C4 := am (blk_below B4.out hb); have C5 := am (blk_below B5.out hb); have C6 := am (blk_below B6.out hb); have HB2 := am (below_step HB.out hb); have HSZ2 := am hb.size; clear hb hv))
 have hx58 : ∀ i v, #[.slice AL lA.length cL, .slice none 0 0, .slice none 0 0, .slice AX lX.length cX][i]? = some v → (w2.alloc (.cells #[.string awX.f0, .string awX.f1, .string awX.f2, .string awX.f3, .slice A4 awX.f4.length c4] 34)).cell? ⟨w.heap.size + 1 + 1 + 1, i, none⟩ = some v := fun i v h => (blk_cell (blk_alloc C6.out _) i).trans h
 have h580 := hx58 0 _ rfl
 have h581 := hx58 1 _ rfl
 have h582 := hx58 2 _ rfl
 have h583 := hx58 3 _ rfl
 clear hx58
 have D4 := am (blk_alloc C4.out (.cells #[.string awX.f0, .string awX.f1, .string awX.f2, .string awX.f3, .slice A4 awX.f4.length c4] 34))
 have D5 := am (blk_alloc C5.out (.cells #[.string awX.f0, .string awX.f1, .string awX.f2, .string awX.f3, .slice A4 awX.f4.length c4] 34))
 have D6 := am (blk_alloc C6.out (.cells #[.string awX.f0, .string awX.f1, .string awX.f2, .string awX.f3, .slice A4 awX.f4.length c4] 34))
 have D7 := am (blk_new w2 (.cells #[.string awX.f0, .string awX.f1, .string awX.f2, .string awX.f3, .slice A4 awX.f4.length c4] 34))
 have HB3 := am (below_alloc HB2.out (.cells #[.string awX.f0, .string awX.f1, .string awX.f2, .string awX.f3, .slice A4 awX.f4.length c4] 34))
 have hsz3 : (w2.alloc (.cells #[.string awX.f0, .string awX.f1, .string awX.f2, .string awX.f3, .slice A4 awX.f4.length c4] 34)).heap.size = w2.heap.size + 1 := by simp
 have h340 := (blk_cell D7.out 0).trans rfl
 have h341 := (blk_cell D7.out 1).trans rfl
 have h342 := (blk_cell D7.out 2).trans rfl
 have h343 := (blk_cell D7.out 3).trans rfl
 have h344 := (blk_cell D7.out 4).trans rfl
 generalize hg7 : w2.heap.size = g7 at *
 have HG7 := am hg7
 generalize w2.alloc (.cells #[.string awX.f0, .string awX.f1, .string awX.f2, .string awX.f3, .slice A4 awX.f4.length c4] 34) = w3 at *
 have HSZ3 := am hsz3
 clear hg7 hsz3
 have hal : ∀ (a : Addr) (v : Value) (o : Obj), w3.cell? a = some v → (w3.alloc o).cell? a = some v := fun a v o h => pw_cell_below (below_alloc (Below.refl w3.heap.size w3) o) h
 go_wp2_with (first | (go_at_call 29; refine (words_cells.calls _ _ _ _ _ _ _ _ _ _ _ _).mono ?_; rintro e w4 ⟨rfl, rfl⟩))
 clear h580 h581 h582 h583 h340 h341 h342 h343 h344 hal
 have E0 : ∀ o1 o2 o3 : Obj, ((w3.alloc o1).alloc o2).alloc o3 = ((w3.alloc o1).alloc o2).alloc o3 := fun _ _ _ => rfl
 clear E0
 have hx3 : ((((w3.alloc (.cells #[.slice none 0 0] 49)).alloc (.cells #[.slice AL lA.length cL, .slice none 0 0, .slice none 0 0, .slice AX lX.length cX] 58)).alloc (.cells #[.string awX.f0, .string awX.f1, .string awX.f2, .string awX.f3, .slice A4 awX.f4.length c4] 34))).heap[w3.heap.size + 1 + 1]? = some (.cells #[.string awX.f0, .string awX.f1, .string awX.f2, .string awX.f3, .slice A4 awX.f4.length c4] 34 (0, 0)) := by
  have := blk_new ((w3.alloc (.cells #[.slice none 0 0] 49)).alloc (.cells #[.slice AL lA.length cL, .slice none 0 0, .slice none 0 0, .slice AX lX.length cX] 58)) (.cells #[.string awX.f0, .string awX.f1, .string awX.f2, .string awX.f3, .slice A4 awX.f4.length c4] 34)
  rwa [World.size_alloc, World.size_alloc] at this
 have hx9 : ((((w3.alloc (.cells #[.slice none 0 0] 49)).alloc (.cells #[.slice AL lA.length cL, .slice none 0 0, .slice none 0 0, .slice AX lX.length cX] 58)).alloc (.cells #[.string awX.f0, .string awX.f1, .string awX.f2, .string awX.f3, .slice A4 awX.f4.length c4] 34))).heap[w3.heap.size]? = some (.cells #[.slice none 0 0] 49 (0, 0)) := blk_alloc (blk_alloc (blk_new w3 _) _) _
 have hbel : Below w3.heap.size w3 (((w3.alloc (.cells #[.slice none 0 0] 49)).alloc (.cells #[.slice AL lA.length cL, .slice none 0 0, .slice none 0 0, .slice AX lX.length cX] 58)).alloc (.cells #[.string awX.f0, .string awX.f1, .string awX.f2, .string awX.f3, .slice A4 awX.f4.length c4] 34)) := below_alloc (below_alloc (below_alloc (Below.refl _ _) _) _) _
 have hs4 : (((w3.alloc (.cells #[.slice none 0 0] 49)).alloc (.cells #[.slice AL lA.length cL, .slice none 0 0, .slice none 0 0, .slice AX lX.length cX] 58)).alloc (.cells #[.string awX.f0, .string awX.f1, .string awX.f2, .string awX.f3, .slice A4 awX.f4.length c4] 34)).heap.size = w3.heap.size + 1 + 1 + 1 := by simp
 generalize (((w3.alloc (.cells #[.slice none 0 0] 49)).alloc (.cells #[.slice AL lA.length cL, .slice none 0 0, .slice none 0 0, .slice AX lX.length cX] 58)).alloc (.cells #[.string awX.f0, .string awX.f1, .string awX.f2, .string awX.f3, .slice A4 awX.f4.length c4] 34)) = w4 at *
 have hf4 := blk_below D4.out hbel
 have hf5 := blk_below D5.out hbel
 have hf6 := blk_below D6.out hbel
 have hf7 := blk_below D7.out hbel
 have hfb := below_step HB3.out hbel
 have hq : w.heap.size + 4 ≤ g7 := by have := HG7.out; have := HSZ2.out; have := HSZ.out; omega
 have HQ := am hq
 have hq3 := HSZ3.out
 clear hbel
 refine wp_rangeOne rfl (enters_of Tryz.func55 (by kernel_rfl) rfl) w.heap.size hfb.size (fun k => k = w3.heap.size) (fun k hk => by omega) (fun vs _ => vs = #[.slice none 0 0]) (fun vs A h => by rw [h]; rfl) (cells_one _ _ _ _ _ _ _ _ _ _ hx3)
  (fun W => W.heap[w.heap.size + 1]? = some (.cells #[.slice none 0 0] 49 (0, 0)) ∧ W.heap[w.heap.size + 1 + 1]? = some (.cells #[.int .i64 0] 30 (0, 0)) ∧ W.heap[w.heap.size + 1 + 1 + 1]? = some (.cells #[.slice AL lA.length cL, .slice none 0 0, .slice none 0 0, .slice AX lX.length cX] 58 (0, 0)) ∧ W.heap[g7]? = some (.cells #[.string awX.f0, .string awX.f1, .string awX.f2, .string awX.f3, .slice A4 awX.f4.length c4] 34 (0, 0)) ∧ W.heap[w3.heap.size]? = some (.cells #[.slice none 0 0] 49 (0, 0)) ∧ Below w.heap.size w W)
  (fun W => W.heap[w.heap.size + 1]? = some (.cells #[.slice none 0 0] 49 (0, 0)) ∧ W.heap[w.heap.size + 1 + 1]? = some (.cells #[.int .i64 0] 30 (0, 0)) ∧ (∃ (g : Nat) (c : Nat) (cs : Array Value) (t : TypeId) (fr : Nat × Nat), W.heap[w3.heap.size]? = some (.cells #[.slice (some ⟨g, 0, none⟩) 1 c] 49 (0, 0)) ∧ W.heap[g]? = some (.cells cs t fr) ∧ W.cell? ⟨g, 0, none⟩ = some (.string awW)) ∧ Below w.heap.size w W)
  (fun A A' h ht => ⟨ht.blk h.1, ht.blk h.2.1, ht.blk h.2.2.1, ht.blk h.2.2.2.1, ht.blk h.2.2.2.2.1, h.2.2.2.2.2.trans (ht.below h.2.2.2.2.2.size)⟩)
  (fun A A' h ht => by
   obtain ⟨h1, h2, ⟨g, c, cs, t, fr, h3, h4, h5⟩, h6⟩ := h
   exact ⟨ht.blk h1, ht.blk h2, ⟨g, c, cs, t, fr, ht.blk h3, ht.blk h4, (World.cell?_of_block (a := ⟨g, 0, none⟩) ((ht.blk h4).trans h4.symm)).trans h5⟩, h6.trans (ht.below h6.size)⟩)
  ⟨hf4, hf5, hf6, hf7, hx9, hfb⟩
  (fun a a' _ => a' = { tmps := [28, 10].foldl (fun t s => t.setIfInBounds s (.slice none 0 0)) a.tmps, defers := [] }) (fun _ _ _ h _ => h) ?assign ?body ?done
 case assign =>
  rintro l vs W K hz hI rfl hK
  gi_wp2
  refine hK _ _ (Below.refl _ _) ?_
  simp
 case body =>
  rintro l a' W hz ⟨f4, f5, f6, f7, f9, fB⟩ rfl
  simp only [List.foldl_cons, List.foldl_nil, List.setIfInBounds_toArray, List.set_cons_zero, List.set_cons_succ]
  have F4 := am f4
  have F5 := am f5
  have F9 := am f9
  have FB := am fB
  have FZ := am hz
  have h0 := (blk_cell f6 0).trans rfl
  have h1 := (blk_cell f6 1).trans rfl
  have h2 := (blk_cell f6 2).trans rfl
  have h3 := (blk_cell f6 3).trans rfl
  have k0 := (blk_cell f7 0).trans rfl
  have k1 := (blk_cell f7 1).trans rfl
  have k2 := (blk_cell f7 2).trans rfl
  have k3 := (blk_cell f7 3).trans rfl
  have k4 := (blk_cell f7 4).trans rfl
  clear f4 f5 f6 f7 f9 fB hf4 hf5 hf6 hf7 hfb hx3 hx9 hz hs4 hq hq3
  obtain ⟨i0, hi0, hz0, hz1, hz2⟩ := info_parts awInfo9
  gi_wp2_with (first | (gi_at_builtin; refine wpListIn_append_own _ rfl _ _ 49 rfl w.heap.size 9 i0 (.string ⟨#[]⟩) 1 16 Tryz.underlying49 hi0 hz0 hz1 hz2 rfl (by decide) _ _ _ rfl (World.ownsRow_nil _ _ _ _) ⟨w5.heap.size, 0, none⟩ 1 1 [.string awW] rfl rfl (cell_one_new _ _ _) (by simp [Value.oneCell']) (by unfold maxLen; omega) (by omega) (by have := HB5.out.size; have := FB.out.size; simp; omega) ?_; intro v' w6 hown hgrow hnil; obtain ⟨g', cap', rfl⟩ := ownsRow_succ hown; have HOWN := am hown; have hbg := pw_below_grown (Below.refl _ _) none (Nat.le_refl _) (show World.grownBy _ w6 none from hgrow) (fun k hk => by cases hk); have K9 := am (blk_below (blk_alloc G9.out _) hbg); have HB6 := am (below_step (below_alloc HB5.out _) hbg); have hy6 := (blk_cell K9.out 0).trans rfl; have hf6 := blk_frozen K9.out 0; clear hbg; clear hown hgrow hnil) | (gi_at_call 24; refine (CallsIn.inRound l (callsIn_wide.2 (morphology_words_form.calls 30 AL cL lA none 0 [] none 0 [] AX cX lX awX.f0 awX.f1 awX.f2 awX.f3 A4 c4 [] none 0 [] awW true _ (Kd.C_below HL.out FB.out) HCL.out (C_empty _ _ _) (Nat.le_refl _) (C_empty _ _ _) (Nat.le_refl _) (Kd.C_below HX.out FB.out) HCX.out (C_empty _ _ _) (Nat.zero_le _) (C_empty _ _ _) (Nat.le_refl _) (Glob.below HG.out FB.out) HFORM.out))).mono ?_; rintro e w5 ⟨rfl, hb⟩; have G9 := am (blk_below F9.out hb); have hy9 := (blk_cell G9.out 0).trans rfl; have HB5 := am hb; clear hb))
  have hc0 : w6.cell? ⟨g', 0, none⟩ = some (.string awW) := (HOWN.out.cellAt 0 (by omega)).trans rfl
  obtain ⟨cs, t, fr, hcs⟩ := aw_cells_of_cell hc0
  have hne : g' ≠ w3.heap.size := by
   rintro rfl
   rw [(blk_cell K9.out 0).trans rfl] at hc0
   injection hc0 with hc0
   cases hc0
  have hn4 : w.heap.size + 1 ≠ w3.heap.size := by have := HQ.out; have := HSZ3.out; omega
  have hn5 : w.heap.size + 1 + 1 ≠ w3.heap.size := by have := HQ.out; have := HSZ3.out; omega
  refine ⟨Off.setCell (S := fun k => k = w3.heap.size) (Off.of_below HB6.out) (p := ⟨w3.heap.size, 0, none⟩) rfl _, blk_far (blk_below F4.out HB6.out) (p := ⟨w3.heap.size, 0, none⟩) hn4 _, blk_far (blk_below F5.out HB6.out) (p := ⟨w3.heap.size, 0, none⟩) hn5 _, ⟨g', cap', cs, t, fr, blk_set K9.out 0 _, blk_far' hcs (p := ⟨w3.heap.size, 0, none⟩) hne _, ?_⟩, below_set (below_step FB.out HB6.out) (by have := HQ.out; have := HSZ3.out; show w.heap.size ≤ w3.heap.size; omega)⟩
  rw [World.cell?_of_block (a := ⟨g', 0, none⟩) ((blk_far' hcs (p := ⟨w3.heap.size, 0, none⟩) hne _).trans hcs.symm)]
  exact hc0
 case done =>
  rintro D W hD ⟨f4, f5, ⟨g, c, cs, t, fr, f9, fg, fc⟩, fB⟩ hK
  dsimp only
  have F4 := am f4
  have F5 := am f5
  have FG := am fg
  have FC := am fc
  have FB := am fB
  have HK := am hK
  have HD := am (show w.heap.size ≤ D from Nat.le_trans hfb.size hD)
  have hx4 := (blk_cell f4 0).trans rfl
  have hf4' := blk_frozen f4 0
  have hx5 := (blk_cell f5 0).trans rfl
  have hf5' := blk_frozen f5 0
  have hx9' := (blk_cell f9 0).trans rfl
  clear f4 f5 f9 fg fc fB hD hK hf4 hf5 hf6 hf7 hfb hx3 hx9 hs4 hq hq3
  go_wp2
  have hne : w.heap.size + 1 ≠ w.heap.size + 1 + 1 := by omega
  have hg1 : g ≠ w.heap.size + 1 := by
   rintro rfl
   have := FC.out
   rw [(blk_cell F4.out 0).trans rfl] at this
   injection this with this
   cases this
  have hg2 : g ≠ w.heap.size + 1 + 1 := by
   rintro rfl
   have := FC.out
   rw [(blk_cell F5.out 0).trans rfl] at this
   injection this with this
   cases this
  have K2 := am (blk_far' (blk_far' HK.out (p := ⟨w.heap.size + 1, 0, none⟩) (ne_cells HK.out F4.out) (.slice (some ⟨g, 0, none⟩) 1 c)) (p := ⟨w.heap.size + 1 + 1, 0, none⟩) (ne_cells HK.out F5.out) (.int .i64 0))
  refine ⟨by simp, .inl ⟨_, _, rfl, run_takeDeferred K2.out, ?_⟩⟩
  have E4 := am (blk_far (blk_set F4.out 0 (.slice (some ⟨g, 0, none⟩) 1 c)) (p := ⟨w.heap.size + 1 + 1, 0, none⟩) hne (.int .i64 0))
  have E5 := am (blk_set (blk_far F5.out (p := ⟨w.heap.size + 1, 0, none⟩) (Ne.symm hne) (.slice (some ⟨g, 0, none⟩) 1 c)) 0 (.int .i64 0))
  have EG := am (blk_far' (blk_far' FG.out (p := ⟨w.heap.size + 1, 0, none⟩) hg1 (.slice (some ⟨g, 0, none⟩) 1 c)) (p := ⟨w.heap.size + 1 + 1, 0, none⟩) hg2 (.int .i64 0))
  have hy4 := (blk_cell (put_far E4.out (ne_cells K2.out E4.out) (.deferred none)) 0).trans rfl
  have hy5 := (blk_cell (put_far E5.out (ne_cells K2.out E5.out) (.deferred none)) 0).trans rfl
  have hyg := put_far EG.out (ne_cells K2.out EG.out) (.deferred none)
  refine ⟨.tuple #[.slice (some ⟨g, 0, none⟩) 1 c, .int .i64 0], by simp [results, Tryz.results11, go_sem, hy4, hy5], ⟨g, 0, none⟩, c, rfl, ?_, ?_⟩
  ·rw [World.cell?_of_block (a := ⟨g, 0, none⟩) (hyg.trans FG.out.symm)]
   exact FC.out
  exact (below_set (below_set FB.out (by show w.heap.size ≤ w.heap.size + 1; omega)) (by show w.heap.size ≤ w.heap.size + 1 + 1; omega)).trans (belowK_b (w := w) (Nat.le_refl _) _ D _ _ HD.out K2.out rfl rfl)
theorem add_zero' (ad : Addr) : ad.add 0 = ad := by
 unfold Addr.add
 cases ad with
 | mk b o s => cases s <;> simp
theorem morphology_All.calls (A0 A1 A2 A3 : Option Addr) (n0 n1 n2 n3 c0 c1 c2 c3 : Nat) (w : World) :
  Calls Tryz.prog 57 #[.agg #[.slice A0 n0 c0, .slice A1 n1 c1, .slice A2 n2 c2, .slice A3 n3 c3]] w fun e w' => e = .returned (.func (.func 77) #[] #[.pointer (some ⟨w.heap.size + 1, 0, none⟩)]) ∧ w' = (w.alloc (.cells #[.slice A0 n0 c0, .slice A1 n1 c1, .slice A2 n2 c2, .slice A3 n3 c3] 27)).alloc (.cells #[.slice A0 n0 c0, .slice A1 n1 c1, .slice A2 n2 c2, .slice A3 n3 c3] 58) := by
 go_enter Tryz.func57, Tryz.ntmps57
 go_wp2
 go_ret
 exact ⟨by simp, rfl⟩
theorem all_one (S : Nat → Prop) (gw : Nat) (AL : Option Addr) (cL : Nat) (lA : List S48) (AX : Option Addr) (cX : Nat) (lX : List S34) (w0 w : World) (hL : Kd.C k48 w0 AL lA.length lA) (hcL : lA.length ≤ cL) (hX : Kd.C k34 w0 AX lX.length lX) (hcX : lX.length ≤ cX) (hG : Glob w0) (hb0 : Below w0.heap.size w0 w) (hA : lA = awA) (hx : lX = [awX])
  (hgw : w.heap[gw]? = some (.cells #[.slice AL lA.length cL, .slice none 0 0, .slice none 0 0, .slice AX lX.length cX] 58 (0, 0))) (hS : ∀ k, S k → k < w.heap.size + 2 ∧ w0.heap.size ≤ k ∧ k ≠ gw) :
  IterOne Tryz.prog 77 #[.pointer (some ⟨gw, 0, none⟩)] S (fun vs _ => vs = #[.string awW, .agg #[.string ⟨#[120]⟩, .slice none 0 0]]) w := by
 intro l J0 J1 W hb hz hJ0 hJ1 hY h0
 have hBW : Below w0.heap.size w0 W := hb0.trans (hb.mono hb0.size)
 have HFORM := am (show morphology_words_form.f 30 lA [] [] lX awX.f0 awX.f1 awX.f2 awX.f3 [] [] = some (awW, true) by rw [hA, hx]; exact aw_form)
 have hl1 : lX.length = 1 := by rw [hx]; rfl
 have hrd : rd_T34 lX 0 = awX := by rw [hx]; rfl
 have HL := am (Kd.C_below hL hBW)
 have HX := am (Kd.C_below hX hBW)
 have HCL := am hcL
 have HCX := am hcX
 have HG := am (Glob.below hG hBW)
 have HJ0 := am hJ0
 have HJ1 := am hJ1
 have HY := am hY
 have H0 := am h0
 have HS := am hS
 have HZ := am hz
 have BW := am (blk_below hgw hb)
 have HB0 := am hb0
 have HBW := am hBW
 obtain ⟨ad, A4, c4, ead, hx0, hx1, hx2, hx3, hx4, hl4, hi4⟩ := at_T34 (Kd.C_below hX hBW) 0 (by omega) (by rw [hl1]; decide)
 have h583 := (blk_cell (blk_below hgw hb) 3).trans rfl
 rw [hrd] at hx0 hx1 hx2 hx3 hx4
 rw [show (0 : Int).toNat * 5 = 0 from rfl, add_zero'] at hx0 hx1 hx2 hx3 hx4
 subst ead
 clear hL hcL hX hcX hG hJ0 hJ1 hY h0 hS hz hgw hb0 hBW hb hA hx hl4 hi4
 show Calls Tryz.prog 77 #[.func (.yield l) #[] #[], .pointer (some ⟨gw, 0, none⟩)] W _
 refine calls_of_marks Tryz.func77 rfl ?_
 simp only [Tryz.ntmps77, List.size_toArray, List.length_cons, List.length_nil, Nat.reduceAdd, Nat.reduceSub, Array.replicate_succ, Array.replicate_zero, List.push_toArray, List.append_toArray, List.nil_append, List.cons_append]
 have hal : ∀ (a : Addr) (v : Value) (o : Obj), W.cell? a = some v → (W.alloc o).cell? a = some v := fun a v o h => pw_cell_below (below_alloc (Below.refl W.heap.size W) o) h
 have h583a := hal _ _ (.cells #[.func (.yield l) #[] #[]] 147) h583
 go_wp2
 refine wp_loop_rounds 2 ?_
 simp only [Code.rounds]
 have hxa0 := hal _ _ (.cells #[.func (.yield l) #[] #[]] 147) hx0
 have hxa1 := hal _ _ (.cells #[.func (.yield l) #[] #[]] 147) hx1
 have hxa2 := hal _ _ (.cells #[.func (.yield l) #[] #[]] 147) hx2
 have hxa3 := hal _ _ (.cells #[.func (.yield l) #[] #[]] 147) hx3
 have hxa4 := hal _ _ (.cells #[.func (.yield l) #[] #[]] 147) hx4
 have B147 := am (blk_new W (.cells #[.func (.yield l) #[] #[]] 147))
 have B58 := am (blk_alloc BW.out (.cells #[.func (.yield l) #[] #[]] 147))
 have HBa := am (below_alloc (Below.refl W.heap.size W) (.cells #[.func (.yield l) #[] #[]] 147))
 have hza : (W.alloc (.cells #[.func (.yield l) #[] #[]] 147)).heap.size = W.heap.size + 1 := by simp
 clear hx0 hx1 hx2 hx3 hx4 h583 hal h583a
 generalize W.alloc (.cells #[.func (.yield l) #[] #[]] 147) = W1 at *
 have HZA := am hza
 clear hza
 have hx58 : ∀ o i v, #[Value.slice AL lA.length cL, .slice none 0 0, .slice none 0 0, .slice (some ad) lX.length cX][i]? = some v → (W1.alloc o).cell? ⟨gw, i, none⟩ = some v := fun o i v h => (blk_cell (blk_alloc B58.out o) i).trans h
 have h580 := fun o => hx58 o 0 _ rfl
 have h581 := fun o => hx58 o 1 _ rfl
 have h582 := fun o => hx58 o 2 _ rfl
 have h583 := fun o => hx58 o 3 _ rfl
 clear hx58
 go_wp2_with (first | (go_at_call 29; refine (words_cells.calls _ _ _ _ _ _ _ _ _ _ _ _).mono ?_; rintro e w4 ⟨rfl, rfl⟩))
 clear hxa0 hxa1 hxa2 hxa3 hxa4 h580 h581 h582 h583
 have hgx : (((W1.alloc (.cells #[.string awX.f0, .string awX.f1, .string awX.f2, .string awX.f3, .slice A4 awX.f4.length c4] 34)).alloc (.cells #[.slice AL lA.length cL, .slice none 0 0, .slice none 0 0, .slice (some ad) lX.length cX] 58)).alloc (.cells #[.string awX.f0, .string awX.f1, .string awX.f2, .string awX.f3, .slice A4 awX.f4.length c4] 34)).heap[W1.heap.size + 1 + 1]? = some (.cells #[.string awX.f0, .string awX.f1, .string awX.f2, .string awX.f3, .slice A4 awX.f4.length c4] 34 (0, 0)) := by
  have := blk_new ((W1.alloc (.cells #[.string awX.f0, .string awX.f1, .string awX.f2, .string awX.f3, .slice A4 awX.f4.length c4] 34)).alloc (.cells #[.slice AL lA.length cL, .slice none 0 0, .slice none 0 0, .slice (some ad) lX.length cX] 58)) (.cells #[.string awX.f0, .string awX.f1, .string awX.f2, .string awX.f3, .slice A4 awX.f4.length c4] 34)
  rwa [World.size_alloc, World.size_alloc] at this
 have hg4 : (((W1.alloc (.cells #[.string awX.f0, .string awX.f1, .string awX.f2, .string awX.f3, .slice A4 awX.f4.length c4] 34)).alloc (.cells #[.slice AL lA.length cL, .slice none 0 0, .slice none 0 0, .slice (some ad) lX.length cX] 58)).alloc (.cells #[.string awX.f0, .string awX.f1, .string awX.f2, .string awX.f3, .slice A4 awX.f4.length c4] 34)).heap[W1.heap.size]? = some (.cells #[.string awX.f0, .string awX.f1, .string awX.f2, .string awX.f3, .slice A4 awX.f4.length c4] 34 (0, 0)) := blk_alloc (blk_alloc (blk_new W1 _) _) _
 have hbel : Below W1.heap.size W1 (((W1.alloc (.cells #[.string awX.f0, .string awX.f1, .string awX.f2, .string awX.f3, .slice A4 awX.f4.length c4] 34)).alloc (.cells #[.slice AL lA.length cL, .slice none 0 0, .slice none 0 0, .slice (some ad) lX.length cX] 58)).alloc (.cells #[.string awX.f0, .string awX.f1, .string awX.f2, .string awX.f3, .slice A4 awX.f4.length c4] 34)) := below_alloc (below_alloc (below_alloc (Below.refl _ _) _) _) _
 have hs4 : (((W1.alloc (.cells #[.string awX.f0, .string awX.f1, .string awX.f2, .string awX.f3, .slice A4 awX.f4.length c4] 34)).alloc (.cells #[.slice AL lA.length cL, .slice none 0 0, .slice none 0 0, .slice (some ad) lX.length cX] 58)).alloc (.cells #[.string awX.f0, .string awX.f1, .string awX.f2, .string awX.f3, .slice A4 awX.f4.length c4] 34)).heap.size = W1.heap.size + 1 + 1 + 1 := by simp
 rw [hl1] at hgx hg4 hbel hs4
 generalize (((W1.alloc (.cells #[.string awX.f0, .string awX.f1, .string awX.f2, .string awX.f3, .slice A4 awX.f4.length c4] 34)).alloc (.cells #[.slice AL lA.length cL, .slice none 0 0, .slice none 0 0, .slice (some ad) 1 cX] 58)).alloc (.cells #[.string awX.f0, .string awX.f1, .string awX.f2, .string awX.f3, .slice A4 awX.f4.length c4] 34)) = W4 at *
 have hf147 := blk_below B147.out hbel
 have hf58 := blk_below B58.out hbel
 have hfb := below_step HBa.out hbel
 have hq := HZA.out
 have hsS := HS.out
 clear hbel
 refine wp_rangeOne rfl (enters_of Tryz.func55 (by kernel_rfl) rfl) W.heap.size hfb.size S (fun k hk => by have := hsS k hk; have := HZ.out; omega) (fun vs _ => vs = #[.slice none 0 0]) (fun vs A h => by rw [h]; rfl) (cells_one _ _ _ _ _ _ _ _ _ _ hgx)
  (fun A => J0 A ∧ A.heap[W.heap.size]? = some (.cells #[.func (.yield l) #[] #[]] 147 (0, 0)) ∧ A.heap[gw]? = some (.cells #[.slice AL lA.length cL, .slice none 0 0, .slice none 0 0, .slice (some ad) lX.length cX] 58 (0, 0)) ∧ A.heap[W1.heap.size]? = some (.cells #[.string awX.f0, .string awX.f1, .string awX.f2, .string awX.f3, .slice A4 awX.f4.length c4] 34 (0, 0)) ∧ Below W.heap.size W A)
  (fun A => J1 A)
  (fun A A' h ht => ⟨HJ0.out _ _ h.1 ht, ht.blk h.2.1, ht.blk h.2.2.1, ht.blk h.2.2.2.1, h.2.2.2.2.trans (ht.below h.2.2.2.2.size)⟩)
  (fun A A' h ht => HJ1.out _ _ h ht)
  ⟨HJ0.out _ _ H0.out (Turn.of_below hfb), hf147, hf58, hg4, hfb⟩
  (fun a a' _ => a' = { tmps := [19, 5].foldl (fun t s => t.setIfInBounds s (.slice none 0 0)) a.tmps, defers := [] }) (fun _ _ _ h _ => h) ?assign ?body ?done
 case assign =>
  rintro l' vs W K hz hI rfl hK
  gi_wp2
  refine hK _ _ (Below.refl _ _) ?_
  simp
 case body =>
  rintro l' a' Wb hz ⟨fJ, f147, f58, f34, fB⟩ rfl
  simp only [List.foldl_cons, List.foldl_nil, List.setIfInBounds_toArray, List.set_cons_zero, List.set_cons_succ]
  have FJ := am fJ
  have F147 := am f147
  have F34 := am f34
  have FB := am fB
  have FZ := am hz
  have h0 := (blk_cell f58 0).trans rfl
  have h1 := (blk_cell f58 1).trans rfl
  have h2 := (blk_cell f58 2).trans rfl
  have h3 := (blk_cell f58 3).trans rfl
  have k0 := (blk_cell f34 0).trans rfl
  have k1 := (blk_cell f34 1).trans rfl
  have k2 := (blk_cell f34 2).trans rfl
  have k3 := (blk_cell f34 3).trans rfl
  have k4 := (blk_cell f34 4).trans rfl
  rw [hl1] at h3
  have HL1 := am hl1
  clear fJ f147 f58 f34 fB hf147 hf58 hfb hgx hg4 hz hs4 hsS hl1 hq
  gi_wp2_with (first | (gi_at_call 24; refine (CallsIn.inRound l' (callsIn_wide.2 (show Calls Tryz.prog 24 #[.agg #[.slice AL lA.length cL, .slice none 0 0, .slice none 0 0, .slice (some ad) 1 cX], .agg #[.string awX.f0, .string awX.f1, .string awX.f2, .string awX.f3, .slice A4 awX.f4.length c4], .slice none 0 0] _ _ from by rw [← HL1.out]; exact morphology_words_form.calls 30 AL cL lA none 0 [] none 0 [] (some ad) cX lX awX.f0 awX.f1 awX.f2 awX.f3 A4 c4 [] none 0 [] awW true _ (Kd.C_below HL.out FB.out) HCL.out (C_empty _ _ _) (Nat.le_refl _) (C_empty _ _ _) (Nat.le_refl _) (Kd.C_below HX.out FB.out) HCX.out (C_empty _ _ _) (Nat.zero_le _) (C_empty _ _ _) (Nat.le_refl _) (Glob.below HG.out FB.out) HFORM.out))).mono ?_; rintro e w5 ⟨rfl, hb⟩; have hyy := (blk_cell (blk_below F147.out hb) 0).trans rfl; have kk0 := (blk_cell (blk_below F34.out hb) 0).trans rfl; have HB5 := am hb; obtain ⟨fn_, tm_, as_, bo_, hy, hR⟩ := HY.out #[.string awW, .agg #[.string awX.f0, .slice none 0 0]] w5 (HJ0.out _ _ FJ.out (Turn.of_below hb)) rfl; have HRD := am hR; clear hb hR))
  refine RoundIn.mono (show RoundIn (Fence.wide.inRound l') 0 Tryz.prog l fn_ tm_ as_ bo_ w5 _ from HRD.out) ?_
  rintro e W' ⟨rfl, hJ', hoff⟩
  have HJ' := am hJ'
  have HOF := am hoff
  clear hJ' hoff
  gi_wp2
  exact ⟨(Off.of_below HB5.out).trans HOF.out, HJ'.out⟩
 case done =>
  rintro D Wd hD hJd hK
  dsimp only
  have HJD := am hJd
  have HK := am hK
  have HD := am (show W.heap.size ≤ D from Nat.le_trans hfb.size hD)
  clear hD hJd hK hf147 hf58 hfb hgx hg4 hs4 hsS hl1 hq
  go_wp2
  refine ⟨by simp, .inl ⟨_, _, rfl, run_takeDeferred HK.out, ?_⟩⟩
  refine ⟨_, by simp [results, Tryz.results77, go_sem]; rfl, ⟨_, rfl⟩, ?_⟩
  exact HJ1.out _ _ HJD.out (Turn.putObj _ HD.out HK.out rfl)
theorem awInfo122 : (Tryz.prog.info? 122).map (fun i => (i.zero, i.size, i.bytes)) = some (some (.agg #[.string ⟨#[]⟩, .slice none 0 0]), 2, 40) := by kernel_rfl
theorem cell_two_new (w : World) (a b : Value) (t : TypeId) : ∀ j u, [a, b][j]? = some u → (w.alloc (.cells #[a, b] t)).cell? ((⟨w.heap.size, 0, none⟩ : Addr).add j) = some u := by
 intro j u h
 rw [add_plain]
 refine (blk_cell (blk_new w (.cells #[a, b] t)) j).trans ?_
 rw [← h]
 match j with
 | 0 => rfl
 | 1 => rfl
 | j + 2 => rfl
theorem analyses_aw (AL : Option Addr) (cL : Nat) (lA : List S48) (AX : Option Addr) (cX : Nat) (lX : List S34) (w : World) (hL : Kd.C k48 w AL lA.length lA) (hcL : lA.length ≤ cL) (hX : Kd.C k34 w AX lX.length lX) (hcX : lX.length ≤ cX) (hG : Glob w) (hA : lA = awA) (hx : lX = [awX]) :
  Calls Tryz.prog 30 #[.agg #[.slice AL lA.length cL, .slice none 0 0, .slice none 0 0, .slice AX lX.length cX], .string awW] w fun e w' => ∃ (ad : Addr) (c : Nat), e = .returned (.tuple #[.slice (some ad) 1 c, .int .i64 0]) ∧ Below w.heap.size w w' := by
 have HIS := am (show alphabet_IsWord.f lA awW = some true by rw [hA]; exact aw_isword)
 have HL := am hL
 have HCL := am hcL
 have HX := am hX
 have HCX := am hcX
 have HG := am hG
 have HA := am hA
 have HXX := am hx
 clear hL hcL hX hcX hG hA hx
 refine calls_of_marks Tryz.func30 rfl ?_
 simp only [Tryz.ntmps30, List.size_toArray, List.length_cons, List.length_nil, Nat.reduceAdd, Nat.reduceSub, Array.replicate_succ, Array.replicate_zero, List.push_toArray, List.append_toArray, List.nil_append, List.cons_append]
 go_upto_region 1 with (fail)
 generalize hW : ((((w.alloc (.cells #[.slice AL lA.length cL, .slice none 0 0, .slice none 0 0, .slice AX lX.length cX] 27)).alloc (.cells #[.string awW] 9)).alloc (.cells #[.slice none 0 0] 84)).alloc (.cells #[.int .i64 0] 30)) = W0
 have hsz : W0.heap.size = w.heap.size + 1 + 1 + 1 + 1 := by rw [← hW]; simp
 have b2 : W0.heap[w.heap.size]? = some (.cells #[.slice AL lA.length cL, .slice none 0 0, .slice none 0 0, .slice AX lX.length cX] 27 (0, 0)) := by rw [← hW]; exact blk_alloc (blk_alloc (blk_alloc (blk_new w _) _) _) _
 have b3 : W0.heap[w.heap.size + 1]? = some (.cells #[.string awW] 9 (0, 0)) := by rw [← hW]; exact blk_alloc (blk_alloc (by have := blk_new (w.alloc (.cells #[.slice AL lA.length cL, .slice none 0 0, .slice none 0 0, .slice AX lX.length cX] 27)) (.cells #[.string awW] 9); rwa [World.size_alloc] at this) _) _
 have b4 : W0.heap[w.heap.size + 1 + 1]? = some (.cells #[.slice none 0 0] 84 (0, 0)) := by rw [← hW]; exact blk_alloc (by have := blk_new ((w.alloc (.cells #[.slice AL lA.length cL, .slice none 0 0, .slice none 0 0, .slice AX lX.length cX] 27)).alloc (.cells #[.string awW] 9)) (.cells #[.slice none 0 0] 84); rwa [World.size_alloc, World.size_alloc] at this) _
 have b5 : W0.heap[w.heap.size + 1 + 1 + 1]? = some (.cells #[.int .i64 0] 30 (0, 0)) := by rw [← hW]; have := blk_new (((w.alloc (.cells #[.slice AL lA.length cL, .slice none 0 0, .slice none 0 0, .slice AX lX.length cX] 27)).alloc (.cells #[.string awW] 9)).alloc (.cells #[.slice none 0 0] 84)) (.cells #[.int .i64 0] 30); rwa [World.size_alloc, World.size_alloc, World.size_alloc] at this
 have hbl : Below w.heap.size w W0 := by rw [← hW]; exact below_alloc (below_alloc (below_alloc (below_alloc (Below.refl _ _) _) _) _) _
 clear hW
 have B2 := am b2
 have B3 := am b3
 have B4 := am b4
 have B5 := am b5
 have HB := am hbl
 have HSZ := am hsz
 have hx20 := (blk_cell b2 0).trans rfl
 have hx30 := (blk_cell b3 0).trans rfl
 clear b2 b3 b4 b5 hbl hsz
 go_upto_region 3 with (first | (go_at_call 56; refine (alphabet_IsWord.calls AL cL lA awW true _ (Kd.C_below HL.out HB.out) HCL.out (Glob.below HG.out HB.out) HIS.out).mono ?_; rintro e w2 ⟨rfl, hb⟩; have C2 := am (blk_below B2.out hb); have C3 := am (blk_below B3.out hb); have C4 := am (blk_below B4.out hb); have C5 := am (blk_below B5.out hb); have HB2 := am (below_step HB.out hb); have HSZ2 := am hb.size; clear hb))
 clear hx20 hx30
 have hx2 : ∀ o i v, #[Value.slice AL lA.length cL, .slice none 0 0, .slice none 0 0, .slice AX lX.length cX][i]? = some v → (w2.alloc o).cell? ⟨w.heap.size, i, none⟩ = some v := fun o i v h => (blk_cell (blk_alloc C2.out o) i).trans h
 have h20 := fun o => hx2 o 0 _ rfl
 have h21 := fun o => hx2 o 1 _ rfl
 have h22 := fun o => hx2 o 2 _ rfl
 have h23 := fun o => hx2 o 3 _ rfl
 clear hx2
 go_wp2_with (first | (go_at_call 57; refine (morphology_All.calls _ _ _ _ _ _ _ _ _ _ _ _ _).mono ?_; rintro e w4 ⟨rfl, rfl⟩))
 clear h20 h21 h22 h23
 have hg58 : (((w2.alloc (.cells #[.slice none 0 0] 84)).alloc (.cells #[.slice AL lA.length cL, .slice none 0 0, .slice none 0 0, .slice AX lX.length cX] 27)).alloc (.cells #[.slice AL lA.length cL, .slice none 0 0, .slice none 0 0, .slice AX lX.length cX] 58)).heap[w2.heap.size + 1 + 1]? = some (.cells #[.slice AL lA.length cL, .slice none 0 0, .slice none 0 0, .slice AX lX.length cX] 58 (0, 0)) := by
  have := blk_new ((w2.alloc (.cells #[.slice none 0 0] 84)).alloc (.cells #[.slice AL lA.length cL, .slice none 0 0, .slice none 0 0, .slice AX lX.length cX] 27)) (.cells #[.slice AL lA.length cL, .slice none 0 0, .slice none 0 0, .slice AX lX.length cX] 58)
  rwa [World.size_alloc, World.size_alloc] at this
 have hg6 : (((w2.alloc (.cells #[.slice none 0 0] 84)).alloc (.cells #[.slice AL lA.length cL, .slice none 0 0, .slice none 0 0, .slice AX lX.length cX] 27)).alloc (.cells #[.slice AL lA.length cL, .slice none 0 0, .slice none 0 0, .slice AX lX.length cX] 58)).heap[w2.heap.size]? = some (.cells #[.slice none 0 0] 84 (0, 0)) := blk_alloc (blk_alloc (blk_new w2 _) _) _
 have hbel : Below w2.heap.size w2 (((w2.alloc (.cells #[.slice none 0 0] 84)).alloc (.cells #[.slice AL lA.length cL, .slice none 0 0, .slice none 0 0, .slice AX lX.length cX] 27)).alloc (.cells #[.slice AL lA.length cL, .slice none 0 0, .slice none 0 0, .slice AX lX.length cX] 58)) := below_alloc (below_alloc (below_alloc (Below.refl _ _) _) _) _
 have hs4 : (((w2.alloc (.cells #[.slice none 0 0] 84)).alloc (.cells #[.slice AL lA.length cL, .slice none 0 0, .slice none 0 0, .slice AX lX.length cX] 27)).alloc (.cells #[.slice AL lA.length cL, .slice none 0 0, .slice none 0 0, .slice AX lX.length cX] 58)).heap.size = w2.heap.size + 1 + 1 + 1 := by simp
 generalize (((w2.alloc (.cells #[.slice none 0 0] 84)).alloc (.cells #[.slice AL lA.length cL, .slice none 0 0, .slice none 0 0, .slice AX lX.length cX] 27)).alloc (.cells #[.slice AL lA.length cL, .slice none 0 0, .slice none 0 0, .slice AX lX.length cX] 58)) = w4 at *
 have hf3 := blk_below C3.out hbel
 have hf4 := blk_below C4.out hbel
 have hf5 := blk_below C5.out hbel
 have hfb := below_step HB2.out hbel
 have hq : w.heap.size + 4 ≤ w2.heap.size := by have := HSZ2.out; have := HSZ.out; omega
 have HQ := am hq
 have HS4 := am hs4
 clear hbel
 refine wp_rangeOne rfl (enters_of Tryz.func77 (by kernel_rfl) rfl) w.heap.size hfb.size (fun k => k = w2.heap.size) (fun k hk => by omega) (fun vs _ => vs = #[.string awW, .agg #[.string ⟨#[120]⟩, .slice none 0 0]]) (fun vs A h => by rw [h]; rfl)
  (all_one _ (w2.heap.size + 1 + 1) AL cL lA AX cX lX w w4 HL.out HCL.out HX.out HCX.out HG.out hfb HA.out HXX.out hg58 (fun k hk => by omega))
  (fun W => W.heap[w.heap.size + 1]? = some (.cells #[.string awW] 9 (0, 0)) ∧ W.heap[w.heap.size + 1 + 1]? = some (.cells #[.slice none 0 0] 84 (0, 0)) ∧ W.heap[w.heap.size + 1 + 1 + 1]? = some (.cells #[.int .i64 0] 30 (0, 0)) ∧ W.heap[w2.heap.size]? = some (.cells #[.slice none 0 0] 84 (0, 0)) ∧ Below w.heap.size w W)
  (fun W => W.heap[w.heap.size + 1 + 1]? = some (.cells #[.slice none 0 0] 84 (0, 0)) ∧ W.heap[w.heap.size + 1 + 1 + 1]? = some (.cells #[.int .i64 0] 30 (0, 0)) ∧ (∃ (g : Nat) (c : Nat), W.heap[w2.heap.size]? = some (.cells #[.slice (some ⟨g, 0, none⟩) 1 c] 84 (0, 0))) ∧ Below w.heap.size w W)
  (fun A A' h ht => ⟨ht.blk h.1, ht.blk h.2.1, ht.blk h.2.2.1, ht.blk h.2.2.2.1, h.2.2.2.2.trans (ht.below h.2.2.2.2.size)⟩)
  (fun A A' h ht => by
   obtain ⟨h1, h2, ⟨g, c, h3⟩, h6⟩ := h
   exact ⟨ht.blk h1, ht.blk h2, ⟨g, c, ht.blk h3⟩, h6.trans (ht.below h6.size)⟩)
  ⟨hf3, hf4, hf5, hg6, hfb⟩
  (fun a a' W => ∃ g, w4.heap.size ≤ g ∧ a' = { tmps := (((a.tmps.setIfInBounds 16 (.string awW)).setIfInBounds 17 (.agg #[.string ⟨#[120]⟩, .slice none 0 0])).setIfInBounds 7 (.string awW)).setIfInBounds 8 (.pointer (some ⟨g, 0, none⟩)), defers := [] } ∧ W.heap[g]? = some (.cells #[.string ⟨#[120]⟩, .slice none 0 0] 122 (0, 0)))
  (fun a' A A' h ht => by obtain ⟨g, h0, h1, h2⟩ := h; exact ⟨g, h0, h1, ht.blk h2⟩) ?assign ?body ?done
 case assign =>
  rintro l vs W K hz hI rfl hK
  gi_wp2
  refine hK _ _ (below_alloc (Below.refl _ _) _) ⟨W.heap.size, by omega, ?_, blk_new W _⟩
  simp
 case body =>
  rintro l a' W hz ⟨f3, f4, f5, f6, fB⟩ ⟨g8, hg8, rfl, f8⟩
  simp only [List.setIfInBounds_toArray, List.set_cons_zero, List.set_cons_succ]
  have F4 := am f4
  have F5 := am f5
  have F6 := am f6
  have FB := am fB
  have h3 := (blk_cell f3 0).trans rfl
  have h6 := (blk_cell f6 0).trans rfl
  have h80 := (blk_cell f8 0).trans rfl
  have h81 := (blk_cell f8 1).trans rfl
  have h6a := fun o => (blk_cell (blk_alloc f6 o) 0).trans rfl
  clear f3 f4 f5 f6 f8 fB hf3 hf4 hf5 hfb hg6 hg58 hz hs4 hq hg8
  have eW : (awW.toList != awW.toList) = false := by simp
  obtain ⟨i0, hi0, hz0, hz1, hz2⟩ := info_parts awInfo122
  gi_wp2_with (first | (gi_at_builtin; refine wpListIn_append_own _ rfl _ _ 84 rfl w.heap.size 122 i0 (.agg #[.string ⟨#[]⟩, .slice none 0 0]) 2 40 Tryz.underlying84 hi0 hz0 hz1 hz2 rfl (by decide) _ _ _ rfl (World.ownsRow_nil _ _ _ _) ⟨W.heap.size, 0, none⟩ 1 1 [.string ⟨#[120]⟩, .slice none 0 0] rfl rfl (cell_two_new _ _ _ _) (by simp [Value.oneCell']) (by unfold maxLen; omega) (by omega) (by have := FB.out.size; simp; omega) ?_; intro v' w6 hown hgrow hnil; obtain ⟨g', cap', rfl⟩ := ownsRow_succ hown; have hbg := pw_below_grown (Below.refl _ _) none (Nat.le_refl _) (show World.grownBy _ w6 none from hgrow) (fun k hk => by cases hk); have K9 := am (blk_below (blk_alloc F6.out _) hbg); have HB6 := am (below_step (below_alloc (Below.refl _ _) _) hbg); have hy6 := (blk_cell K9.out 0).trans rfl; have hf6 := blk_frozen K9.out 0; clear hbg hown hgrow hnil))
  have hn4 : w.heap.size + 1 + 1 ≠ w2.heap.size := by have := HQ.out; omega
  have hn5 : w.heap.size + 1 + 1 + 1 ≠ w2.heap.size := by have := HQ.out; omega
  exact ⟨Off.setCell (S := fun k => k = w2.heap.size) (Off.of_below HB6.out) (p := ⟨w2.heap.size, 0, none⟩) rfl _, blk_far (blk_below F4.out HB6.out) (p := ⟨w2.heap.size, 0, none⟩) hn4 _, blk_far (blk_below F5.out HB6.out) (p := ⟨w2.heap.size, 0, none⟩) hn5 _, ⟨g', cap', blk_set K9.out 0 _⟩, below_set (below_step FB.out HB6.out) (by have := HQ.out; show w.heap.size ≤ w2.heap.size; omega)⟩
 case done =>
  rintro D W hD ⟨f4, f5, ⟨g, c, f9⟩, fB⟩ hK
  dsimp only
  have F4 := am f4
  have F5 := am f5
  have FB := am fB
  have HK := am hK
  have HD := am (show w.heap.size ≤ D from Nat.le_trans hfb.size hD)
  have hx4 := (blk_cell f4 0).trans rfl
  have hf4' := blk_frozen f4 0
  have hx5 := (blk_cell f5 0).trans rfl
  have hf5' := blk_frozen f5 0
  have hx9' := (blk_cell f9 0).trans rfl
  clear f4 f5 f9 fB hD hK hf3 hf4 hf5 hfb hg6 hg58 hs4 hq
  go_wp2
  have hne : w.heap.size + 1 + 1 ≠ w.heap.size + 1 + 1 + 1 := by omega
  have K2 := am (blk_far' (blk_far' HK.out (p := ⟨w.heap.size + 1 + 1, 0, none⟩) (ne_cells HK.out F4.out) (.slice (some ⟨g, 0, none⟩) 1 c)) (p := ⟨w.heap.size + 1 + 1 + 1, 0, none⟩) (ne_cells HK.out F5.out) (.int .i64 0))
  refine ⟨by simp, .inl ⟨_, _, rfl, run_takeDeferred K2.out, ?_⟩⟩
  have E4 := am (blk_far (blk_set F4.out 0 (.slice (some ⟨g, 0, none⟩) 1 c)) (p := ⟨w.heap.size + 1 + 1 + 1, 0, none⟩) hne (.int .i64 0))
  have E5 := am (blk_set (blk_far F5.out (p := ⟨w.heap.size + 1 + 1, 0, none⟩) (Ne.symm hne) (.slice (some ⟨g, 0, none⟩) 1 c)) 0 (.int .i64 0))
  have hy4 := (blk_cell (put_far E4.out (ne_cells K2.out E4.out) (.deferred none)) 0).trans rfl
  have hy5 := (blk_cell (put_far E5.out (ne_cells K2.out E5.out) (.deferred none)) 0).trans rfl
  refine ⟨.tuple #[.slice (some ⟨g, 0, none⟩) 1 c, .int .i64 0], by simp [results, Tryz.results30, go_sem, hy4, hy5], ⟨g, 0, none⟩, c, rfl, ?_⟩
  exact (below_set (below_set FB.out (by show w.heap.size ≤ w.heap.size + 1 + 1; omega)) (by show w.heap.size ≤ w.heap.size + 1 + 1 + 1; omega)).trans (belowK_b (w := w) (Nat.le_refl _) _ D _ _ HD.out K2.out rfl rfl)
theorem ambiguity_aw (AL : Option Addr) (cL : Nat) (lA : List S48) (AX : Option Addr) (cX : Nat) (lX : List S34) (w : World) (hL : Kd.C k48 w AL lA.length lA) (hcL : lA.length ≤ cL) (hX : Kd.C k34 w AX lX.length lX) (hcX : lX.length ≤ cX) (hG : Glob w) (hA : lA = awA) (hx : lX = [awX]) :
  Calls Tryz.prog 12 #[.agg #[.slice AL lA.length cL, .slice none 0 0, .slice none 0 0, .slice AX lX.length cX], .string awW] w fun e w' => e = .returned (.tuple #[.int .i64 1, .int .i64 0]) ∧ Below w.heap.size w w' := by
 have HL := am hL
 have HCL := am hcL
 have HX := am hX
 have HCX := am hcX
 have HG := am hG
 have HA := am hA
 have HXX := am hx
 clear hL hcL hX hcX hG hA hx
 go_enter Tryz.func12, Tryz.ntmps12
 go_wp2_with (first | (go_at_call 30; refine (analyses_aw AL cL lA AX cX lX _ (Kd.C_below HL.out (below_alloc (Below.refl _ _) _)) HCL.out (Kd.C_below HX.out (below_alloc (Below.refl _ _) _)) HCX.out (Glob.below HG.out (below_alloc (Below.refl _ _) _)) HA.out HXX.out).mono ?_; rintro e w2 ⟨ad, c, rfl, hb⟩; have HB2 := am (below_step (below_alloc (Below.refl _ _) _) hb); clear hb))
 go_ret2
 exact ⟨rfl, HB2.out⟩
theorem pentaglottop_awake06.calls (r : Bool) (w : World) (hG : Glob w) (h : pentaglottop_awake06.f = some r) : Calls Tryz.prog 4 #[] w fun e w' => e = .returned (.bool r) ∧ Below w.heap.size w w' := by
 obtain rfl : true = r := Option.some.inj h
 have HG := am hG
 clear hG h
 go_enter Tryz.func4, Tryz.ntmps4
 go_upto_region 2 with (fail)
 have b48 : (((w.alloc (.cells #[.int .i32 97, .int .u32 0, .int .i32 115, .int .u32 0] 48)).alloc (.cells #[.string ⟨#[120]⟩, .string ⟨#[110]⟩, .string ⟨#[97, 115]⟩, .string ⟨#[]⟩, .slice none 0 0] 34)).alloc (.cells #[.slice (some ⟨w.heap.size, 0, none⟩) 2 2, .slice none 0 0, .slice none 0 0, .slice (some ⟨w.heap.size + 1, 0, none⟩) 1 1] 27)).heap[w.heap.size]? = some (.cells #[.int .i32 97, .int .u32 0, .int .i32 115, .int .u32 0] 48 (0, 0)) := blk_alloc (blk_alloc (blk_new w _) _) _
 have b34 : (((w.alloc (.cells #[.int .i32 97, .int .u32 0, .int .i32 115, .int .u32 0] 48)).alloc (.cells #[.string ⟨#[120]⟩, .string ⟨#[110]⟩, .string ⟨#[97, 115]⟩, .string ⟨#[]⟩, .slice none 0 0] 34)).alloc (.cells #[.slice (some ⟨w.heap.size, 0, none⟩) 2 2, .slice none 0 0, .slice none 0 0, .slice (some ⟨w.heap.size + 1, 0, none⟩) 1 1] 27)).heap[w.heap.size + 1]? = some (.cells #[.string ⟨#[120]⟩, .string ⟨#[110]⟩, .string ⟨#[97, 115]⟩, .string ⟨#[]⟩, .slice none 0 0] 34 (0, 0)) := blk_alloc (by have := blk_new (w.alloc (.cells #[.int .i32 97, .int .u32 0, .int .i32 115, .int .u32 0] 48)) (.cells #[.string ⟨#[120]⟩, .string ⟨#[110]⟩, .string ⟨#[97, 115]⟩, .string ⟨#[]⟩, .slice none 0 0] 34); rwa [World.size_alloc] at this) _
 have b27 : (((w.alloc (.cells #[.int .i32 97, .int .u32 0, .int .i32 115, .int .u32 0] 48)).alloc (.cells #[.string ⟨#[120]⟩, .string ⟨#[110]⟩, .string ⟨#[97, 115]⟩, .string ⟨#[]⟩, .slice none 0 0] 34)).alloc (.cells #[.slice (some ⟨w.heap.size, 0, none⟩) 2 2, .slice none 0 0, .slice none 0 0, .slice (some ⟨w.heap.size + 1, 0, none⟩) 1 1] 27)).heap[w.heap.size + 1 + 1]? = some (.cells #[.slice (some ⟨w.heap.size, 0, none⟩) 2 2, .slice none 0 0, .slice none 0 0, .slice (some ⟨w.heap.size + 1, 0, none⟩) 1 1] 27 (0, 0)) := by have := blk_new ((w.alloc (.cells #[.int .i32 97, .int .u32 0, .int .i32 115, .int .u32 0] 48)).alloc (.cells #[.string ⟨#[120]⟩, .string ⟨#[110]⟩, .string ⟨#[97, 115]⟩, .string ⟨#[]⟩, .slice none 0 0] 34)) (.cells #[.slice (some ⟨w.heap.size, 0, none⟩) 2 2, .slice none 0 0, .slice none 0 0, .slice (some ⟨w.heap.size + 1, 0, none⟩) 1 1] 27); rwa [World.size_alloc, World.size_alloc] at this
 have hbl : Below w.heap.size w (((w.alloc (.cells #[.int .i32 97, .int .u32 0, .int .i32 115, .int .u32 0] 48)).alloc (.cells #[.string ⟨#[120]⟩, .string ⟨#[110]⟩, .string ⟨#[97, 115]⟩, .string ⟨#[]⟩, .slice none 0 0] 34)).alloc (.cells #[.slice (some ⟨w.heap.size, 0, none⟩) 2 2, .slice none 0 0, .slice none 0 0, .slice (some ⟨w.heap.size + 1, 0, none⟩) 1 1] 27)) := below_alloc (below_alloc (below_alloc (Below.refl _ _) _) _) _
 generalize (((w.alloc (.cells #[.int .i32 97, .int .u32 0, .int .i32 115, .int .u32 0] 48)).alloc (.cells #[.string ⟨#[120]⟩, .string ⟨#[110]⟩, .string ⟨#[97, 115]⟩, .string ⟨#[]⟩, .slice none 0 0] 34)).alloc (.cells #[.slice (some ⟨w.heap.size, 0, none⟩) 2 2, .slice none 0 0, .slice none 0 0, .slice (some ⟨w.heap.size + 1, 0, none⟩) 1 1] 27)) = W0 at *
 have hC48 : Kd.C k48 W0 (some ⟨w.heap.size, 0, none⟩) awA.length awA := ⟨rfl, by decide, fun _ => ⟨_, rfl, fun j p hj => by
  match j, hj with
  | 0, hj =>
   obtain rfl := Option.some.inj hj
   refine ⟨_, rfl, k48_mk _ _, fun i u hu => ?_⟩
   rw [add_plain]
   match i, hu with
   | 0, hu => obtain rfl := Option.some.inj hu; exact (blk_cell b48 0).trans rfl
   | 1, hu => obtain rfl := Option.some.inj hu; exact (blk_cell b48 1).trans rfl
  | 1, hj =>
   obtain rfl := Option.some.inj hj
   refine ⟨_, rfl, k48_mk _ _, fun i u hu => ?_⟩
   rw [add_plain]
   match i, hu with
   | 0, hu => obtain rfl := Option.some.inj hu; exact (blk_cell b48 2).trans rfl
   | 1, hu => obtain rfl := Option.some.inj hu; exact (blk_cell b48 3).trans rfl⟩⟩
 have hC34 : Kd.C k34 W0 (some ⟨w.heap.size + 1, 0, none⟩) [awX].length [awX] := ⟨rfl, by decide, fun _ => ⟨_, rfl, fun j p hj => by
  match j, hj with
  | 0, hj =>
   obtain rfl := Option.some.inj hj
   refine ⟨_, rfl, k34_mk _ _ (Nat.le_refl 0) (C_empty _ _ none), fun i u hu => ?_⟩
   rw [add_plain]
   match i, hu with
   | 0, hu => obtain rfl := Option.some.inj hu; exact (blk_cell b34 0).trans rfl
   | 1, hu => obtain rfl := Option.some.inj hu; exact (blk_cell b34 1).trans rfl
   | 2, hu => obtain rfl := Option.some.inj hu; exact (blk_cell b34 2).trans rfl
   | 3, hu => obtain rfl := Option.some.inj hu; exact (blk_cell b34 3).trans rfl
   | 4, hu => obtain rfl := Option.some.inj hu; exact (blk_cell b34 4).trans rfl⟩⟩
 have H48 := am hC48
 have H34 := am hC34
 have B27 := am b27
 have HB := am hbl
 have h0 := (blk_cell b27 0).trans rfl
 have h1 := (blk_cell b27 1).trans rfl
 have h2 := (blk_cell b27 2).trans rfl
 have h3 := (blk_cell b27 3).trans rfl
 clear hC48 hC34 b27 b48 b34 hbl
 have eW : (awW.toList == [97, 115]) = true := by kernel_rfl
 go_wp2_with (first | (go_at_call 11; refine (forms_aw (some ⟨w.heap.size, 0, none⟩) 2 awA (some ⟨w.heap.size + 1, 0, none⟩) 1 [awX] _ H48.out (Nat.le_refl _) H34.out (Nat.le_refl _) (Glob.below HG.out HB.out) rfl rfl).mono ?_; rintro e w2 ⟨ad, c, rfl, had, hb⟩; have HAD := am had; have C27 := am (blk_below B27.out hb); have HB2 := am (below_step HB.out hb); have HBB := am hb; have g0 := (blk_cell C27.out 0).trans rfl; have g1 := (blk_cell C27.out 1).trans rfl; have g2 := (blk_cell C27.out 2).trans rfl; have g3 := (blk_cell C27.out 3).trans rfl; clear hb had) | (go_at_call 12; refine (ambiguity_aw (some ⟨w.heap.size, 0, none⟩) 2 awA (some ⟨w.heap.size + 1, 0, none⟩) 1 [awX] _ (Kd.C_below H48.out HBB.out) (Nat.le_refl _) (Kd.C_below H34.out HBB.out) (Nat.le_refl _) (Glob.below HG.out HB2.out) rfl rfl).mono ?_; rintro e w5 ⟨rfl, hb⟩; have HB5 := am (below_step HB2.out hb); have had := pw_cell_below hb HAD.out; clear hb))
 go_ret
 exact ⟨rfl, HB5.out⟩
theorem pentaglottop_fewRules.calls (k : Nat) (A0 : Option Addr) (c0 : Nat) (l0 : List (S48)) (A1 : Option Addr) (c1 : Nat) (l1 : List (S89)) (a2 : Int) (r : Bool) (w : World) (hr0 : Kd.C k48 w A0 l0.length l0) (hc0 : l0.length ≤ c0) (hr1 : Kd.C k89 w A1 l1.length l1) (hc1 : l1.length ≤ c1) (h : pentaglottop_fewRules.f k l0 l1 a2 = some r) :
  Calls Tryz.prog 13 #[.slice A0 l0.length c0, .slice A1 l1.length c1, .int .i64 a2] w fun e w' => e = .returned (.bool r) ∧ Below w.heap.size w w' := by
 have hu89 := Tryz.underlying89
 have HR0 := am hr0
 have HC0 := am hc0
 clear hr0 hc0
 have HR1 := am hr1
 have HC1 := am hc1
 clear hr1 hc1
 have HB := am (Below.refl w.heap.size w)
 have H : (pentaglottop_fewRules.l0 k l0 l1 a2 0) = some r := h
 clear h
 have H' := am H
 clear H
 go_enter Tryz.func13, Tryz.ntmps13
 go_wp2
 go_loopg [7] k (fun kq v7 w' => ∃ (x7_1 : Int), v7 = .int .i64 x7_1 ∧ Aside0 (pentaglottop_fewRules.l0 kq l0 l1 a2 x7_1 = some r) ∧ Aside0 (kq ≤ k) ∧ Aside0 (Below w.heap.size w w'))
 case atStart => exact ⟨(0), rq, H', ⟨Nat.le_refl _⟩, ⟨bq⟩⟩
 case round =>
  clear H'
  obtain ⟨x7_1, rfl, HA, HK1, HB⟩ := hrel
  cases gk with
  | zero => exact absurd HA.out (by simp [pentaglottop_fewRules.l0])
  | succ k1 =>
   have H := HA.out
   clear HA
   simp only [pentaglottop_fewRules.l0] at H
   by_cases c4 : x7_1 < (l1.length : Int)
   ·rw [if_pos c4] at H
    have c4b0 : decide (x7_1 < (l1.length : Int)) = true := decide_eq_true c4
    clear c4
    by_cases c5 : 0 ≤ x7_1
    ·rw [if_pos c5] at H
     have c5b0 : decide (0 ≤ x7_1) = true := decide_eq_true c5
     clear c5
     have HC6 := am H
     clear H
     have p315 : 0 ≤ (x7_1 : Int) := oq
     have q315 : x7_1 < (l1.length : Int) := oq
     obtain ⟨ad315, A315_2, c315_2, A315_3, c315_3, e315, hx315_0, hx315_1, hx315_2, hx315_3, hx315_4, hx315_5, hl315_2, hi315_2, hl315_3, hi315_3⟩ := at_T89 HR1.out x7_1 p315 q315
     cases e315
     replace hx315_0 := cw hx315_0
     replace hx315_1 := cw hx315_1
     replace hx315_2 := cw hx315_2
     replace hx315_3 := cw hx315_3
     replace hx315_4 := cw hx315_4
     replace hx315_5 := cw hx315_5
     have HR315_2 := am hi315_2
     have HC315_2 := am hl315_2
     clear hi315_2 hl315_2
     have HR315_3 := am hi315_3
     have HC315_3 := am hl315_3
     clear hi315_3 hl315_3
     replace p315 := eq_true p315
     replace q315 := eq_true q315
     go_upto_region 5 with (first | ((with_reducible refine gate_dst (N := 8) rfl ?_); (try (refine gate_guard (by rfl) ?_; dsimp only)); refine bx 8 #[.int .i32 0, .string (⟨#[]⟩ : ByteArray), .slice none 0 0, .slice none 0 0, .bool false, .bool false] 89 ?_; intro gb316 hg w7 hbox hb; have BK316 := am hbox; have GE316 := sz hg; replace HB := bs hb; clear hb hbox hg; obtain ⟨zaa, zab, zac, zad, zae, zaf, zag, zah, zai, zaj, zak, zal⟩ := bc6 BK316))
     (try simp only [Act.put, List.setIfInBounds_toArray, List.set_cons_zero, List.set_cons_succ])
     go_cut [36] (fun v36 wc => ∃ (kq : Nat) (x36_5 : Bool), v36 = .bool x36_5 ∧ Aside0 (pentaglottop_fewRules.j1 kq l0 l1 a2 x7_1 x36_5 ((rd_T89 l1 x7_1).f0) ((rd_T89 l1 x7_1).f1) ((rd_T89 l1 x7_1).f2) ((rd_T89 l1 x7_1).f3) ((rd_T89 l1 x7_1).f4) ((rd_T89 l1 x7_1).f5) = some r) ∧ Aside0 (kq ≤ k1) ∧ Aside0 (wc.heap[gb316]? = some (.cells #[.int .i32 ((rd_T89 l1 x7_1).f0), .string ((rd_T89 l1 x7_1).f1), (.slice A315_2 ((rd_T89 l1 x7_1).f2).length c315_2), (.slice A315_3 ((rd_T89 l1 x7_1).f3).length c315_3), .bool ((rd_T89 l1 x7_1).f4), .bool ((rd_T89 l1 x7_1).f5)] 89 (0, 0))) ∧ Aside0 (Below w.heap.size w wc))
     case first =>
      have H := HC6.out
      clear HC6
      by_cases c9 : (((rd_T89 l1 x7_1).f2).length : Int) > 3
      ·rw [if_pos c9] at H
       have c9b0 : decide (3 < (((rd_T89 l1 x7_1).f2).length : Int)) = true := decide_eq_true c9
       have c9b1 : decide (3 < ((rd_T89 l1 x7_1).f2).length) = true := decide_eq_true (by omega)
       clear c9
       (first | rw [c9b0] | (simp only [i64_w, i32_w]; rw [c9b0]) | skip)
       have H' := am H
       clear H
       obtain ⟨zam, zan, zao, zap, zaq, zar, zas, zat, zau, zav, zaw, zax⟩ := bc6 BK316
       go_wp2
       go_meet
       case rel => exact ⟨_, (true), rq, H', ⟨by have := HK1.out; first | omega | exact Nat.le_refl _⟩, ⟨bp BK316⟩, ⟨bq⟩⟩
      rw [if_neg c9] at H
      have c9b0 : decide (3 < (((rd_T89 l1 x7_1).f2).length : Int)) = false := decide_eq_false c9
      have c9b1 : decide (3 < ((rd_T89 l1 x7_1).f2).length) = false := decide_eq_false (by omega)
      clear c9
      (first | rw [c9b0] | (simp only [i64_w, i32_w]; rw [c9b0]) | skip)
      by_cases c11 : (((rd_T89 l1 x7_1).f3).length : Int) > 3
      ·rw [if_pos c11] at H
       have c11b0 : decide (3 < (((rd_T89 l1 x7_1).f3).length : Int)) = true := decide_eq_true c11
       have c11b1 : decide (3 < ((rd_T89 l1 x7_1).f3).length) = true := decide_eq_true (by omega)
       clear c11
       have H' := am H
       clear H
       obtain ⟨zay, zaz, zba, zbb, zbc, zbd, zbe, zbf, zbg, zbh, zbi, zbj⟩ := bc6 BK316
       go_wp2
       go_meet
       case rel => exact ⟨_, (true), rq, H', ⟨by have := HK1.out; first | omega | exact Nat.le_refl _⟩, ⟨bp BK316⟩, ⟨bq⟩⟩
      rw [if_neg c11] at H
      have c11b0 : decide (3 < (((rd_T89 l1 x7_1).f3).length : Int)) = false := decide_eq_false c11
      have c11b1 : decide (3 < ((rd_T89 l1 x7_1).f3).length) = false := decide_eq_false (by omega)
      clear c11
      have H' := am H
      clear H
      obtain ⟨zbk, zbl, zbm, zbn, zbo, zbp, zbq, zbr, zbs, zbt, zbu, zbv⟩ := bc6 BK316
      go_wp2
      go_meet
      case rel => exact ⟨_, (decide ((((rd_T89 l1 x7_1).f1).size : Int) > 16)), rq, H', ⟨by have := HK1.out; first | omega | exact Nat.le_refl _⟩, ⟨bp BK316⟩, ⟨bq⟩⟩
     case rest =>
      clear HC6 c4b0 c5b0 zaa zab zac zad zae zaf zag zah zai zaj zak zal hx315_0 hx315_1 hx315_2 hx315_3 hx315_4 hx315_5 p315 q315
      obtain ⟨kq, x36_5, rfl, HA, HJ5, BK316, HB⟩ := hcut
      cases kq with
      | zero => exact absurd HA.out (by simp [pentaglottop_fewRules.j1])
      | succ kj5 =>
       have H := HA.out
       clear HA
       simp only [pentaglottop_fewRules.j1] at H
       by_cases c14 : x36_5 = true
       ·subst c14
        rw [if_pos rfl] at H
        obtain rfl := Option.some.inj H
        go_wp2
        go_ret
        exact ⟨eq', bq⟩
       replace c14 := Bool.eq_false_iff.mpr c14
       subst c14
       rw [if_neg nf] at H
       have H' := am H
       clear H
       go_wp2
       go_loopg [9] kj5 (fun kq v9 w' => ∃ (x9_3 : Int), v9 = .int .i64 x9_3 ∧ Aside0 (pentaglottop_fewRules.l1 kq l0 l1 a2 x7_1 x9_3 ((rd_T89 l1 x7_1).f0) ((rd_T89 l1 x7_1).f1) ((rd_T89 l1 x7_1).f2) ((rd_T89 l1 x7_1).f3) ((rd_T89 l1 x7_1).f4) ((rd_T89 l1 x7_1).f5) = some r) ∧ Aside0 (kq ≤ kj5) ∧ Aside0 (w'.heap[gb316]? = some (.cells #[.int .i32 ((rd_T89 l1 x7_1).f0), .string ((rd_T89 l1 x7_1).f1), (.slice A315_2 ((rd_T89 l1 x7_1).f2).length c315_2), (.slice A315_3 ((rd_T89 l1 x7_1).f3).length c315_3), .bool ((rd_T89 l1 x7_1).f4), .bool ((rd_T89 l1 x7_1).f5)] 89 (0, 0))) ∧ Aside0 (Below w.heap.size w w'))
       case atStart => exact ⟨(0), rq, H', ⟨Nat.le_refl _⟩, ⟨bd BK316⟩, ⟨bq⟩⟩
       case round =>
        clear H'
        obtain ⟨x9_3, rfl, HA, HK3, BK316, HB⟩ := hrel
        cases gk with
        | zero => exact absurd HA.out (by simp [pentaglottop_fewRules.l1])
        | succ k3 =>
         have H := HA.out
         clear HA
         simp only [pentaglottop_fewRules.l1] at H
         by_cases c15 : x9_3 < (((rd_T89 l1 x7_1).f2).length : Int)
         ·rw [if_pos c15] at H
          have c15b0 : decide (x9_3 < (((rd_T89 l1 x7_1).f2).length : Int)) = true := decide_eq_true c15
          clear c15
          by_cases c16 : 0 ≤ x9_3
          ·rw [if_pos c16] at H
           have c16b0 : decide (0 ≤ x9_3) = true := decide_eq_true c16
           clear c16
           by_cases c17 : (((rd_T91 ((rd_T89 l1 x7_1).f2) x9_3).f1).size : Int) > 40
           ·rw [if_pos c17] at H
            have c17b0 : decide (40 < (((rd_T91 ((rd_T89 l1 x7_1).f2) x9_3).f1).size : Int)) = true := decide_eq_true c17
            have c17b1 : decide (40 < ((rd_T91 ((rd_T89 l1 x7_1).f2) x9_3).f1).size) = true := decide_eq_true (by omega)
            clear c17
            obtain rfl := Option.some.inj H
            obtain ⟨zbw, zbx, zby, zbz, zca, zcb, zcc, zcd, zce, zcf, zcg, zch⟩ := bc6 BK316
            have p317 : 0 ≤ (x9_3 : Int) := oq
            have q317 : x9_3 < (((rd_T89 l1 x7_1).f2).length : Int) := oq
            obtain ⟨ad317, e317, hx317_0, hx317_1, hx317_2, hx317_3⟩ := at_T91 HR315_2.out x9_3 p317 q317
            cases e317
            replace hx317_0 := cw hx317_0
            replace hx317_1 := cw hx317_1
            replace hx317_2 := cw hx317_2
            replace hx317_3 := cw hx317_3
            replace p317 := eq_true p317
            replace q317 := eq_true q317
            go_wp2
            go_ret
            exact ⟨eq', bq⟩
           rw [if_neg c17] at H
           have c17b0 : decide (40 < (((rd_T91 ((rd_T89 l1 x7_1).f2) x9_3).f1).size : Int)) = false := decide_eq_false c17
           have c17b1 : decide (40 < ((rd_T91 ((rd_T89 l1 x7_1).f2) x9_3).f1).size) = false := decide_eq_false (by omega)
           clear c17
           have H' := am H
           clear H
           obtain ⟨zci, zcj, zck, zcl, zcm, zcn, zco, zcp, zcq, zcr, zcs, zct⟩ := bc6 BK316
           have p317 : 0 ≤ (x9_3 : Int) := oq
           have q317 : x9_3 < (((rd_T89 l1 x7_1).f2).length : Int) := oq
           obtain ⟨ad317, e317, hx317_0, hx317_1, hx317_2, hx317_3⟩ := at_T91 HR315_2.out x9_3 p317 q317
           cases e317
           replace hx317_0 := cw hx317_0
           replace hx317_1 := cw hx317_1
           replace hx317_2 := cw hx317_2
           replace hx317_3 := cw hx317_3
           replace p317 := eq_true p317
           replace q317 := eq_true q317
           go_wp2
           go_roundg k3
           case measure => have := HK1.out; have := HJ5.out; have := HK3.out; omega
           case rel => exact ⟨(wrap64 (x9_3 + 1)), rq, H', ⟨by have := HK1.out; have := HJ5.out; have := HK3.out; omega⟩, ⟨bd BK316⟩, ⟨bq⟩⟩
          rw [if_neg c16] at H
          exact absurd H (by simp)
         rw [if_neg c15] at H
         have c15b0 : decide (x9_3 < (((rd_T89 l1 x7_1).f2).length : Int)) = false := decide_eq_false c15
         clear c15
         have H' := am H
         clear H
         obtain ⟨zcu, zcv, zcw, zcx, zcy, zcz, zda, zdb, zdc, zdd, zde, zdf⟩ := bc6 BK316
         go_wp2
         go_loopg [10] k3 (fun kq v10 w' => ∃ (x10_4 : Int), v10 = .int .i64 x10_4 ∧ Aside0 (pentaglottop_fewRules.l2 kq l0 l1 a2 x7_1 x10_4 ((rd_T89 l1 x7_1).f0) ((rd_T89 l1 x7_1).f1) ((rd_T89 l1 x7_1).f2) ((rd_T89 l1 x7_1).f3) ((rd_T89 l1 x7_1).f4) ((rd_T89 l1 x7_1).f5) = some r) ∧ Aside0 (kq ≤ k3) ∧ Aside0 (w'.heap[gb316]? = some (.cells #[.int .i32 ((rd_T89 l1 x7_1).f0), .string ((rd_T89 l1 x7_1).f1), (.slice A315_2 ((rd_T89 l1 x7_1).f2).length c315_2), (.slice A315_3 ((rd_T89 l1 x7_1).f3).length c315_3), .bool ((rd_T89 l1 x7_1).f4), .bool ((rd_T89 l1 x7_1).f5)] 89 (0, 0))) ∧ Aside0 (Below w.heap.size w w'))
         case atStart => exact ⟨(0), rq, H', ⟨Nat.le_refl _⟩, ⟨bd BK316⟩, ⟨bq⟩⟩
         case round =>
          clear H'
          clear c15b0 zcu zcv zcw zcx zcy zcz zda zdb zdc zdd zde zdf
          obtain ⟨x10_4, rfl, HA, HK4, BK316, HB⟩ := hrel
          cases gk with
          | zero => exact absurd HA.out (by simp [pentaglottop_fewRules.l2])
          | succ k4 =>
           have H := HA.out
           clear HA
           simp only [pentaglottop_fewRules.l2] at H
           by_cases c21 : x10_4 < (((rd_T89 l1 x7_1).f3).length : Int)
           ·rw [if_pos c21] at H
            have c21b0 : decide (x10_4 < (((rd_T89 l1 x7_1).f3).length : Int)) = true := decide_eq_true c21
            clear c21
            by_cases c22 : 0 ≤ x10_4
            ·rw [if_pos c22] at H
             have c22b0 : decide (0 ≤ x10_4) = true := decide_eq_true c22
             clear c22
             by_cases c23 : (((rd_T91 ((rd_T89 l1 x7_1).f3) x10_4).f1).size : Int) > 40
             ·rw [if_pos c23] at H
              have c23b0 : decide (40 < (((rd_T91 ((rd_T89 l1 x7_1).f3) x10_4).f1).size : Int)) = true := decide_eq_true c23
              have c23b1 : decide (40 < ((rd_T91 ((rd_T89 l1 x7_1).f3) x10_4).f1).size) = true := decide_eq_true (by omega)
              clear c23
              obtain rfl := Option.some.inj H
              obtain ⟨zdg, zdh, zdi, zdj, zdk, zdl, zdm, zdn, zdo, zdp, zdq, zdr⟩ := bc6 BK316
              have p318 : 0 ≤ (x10_4 : Int) := oq
              have q318 : x10_4 < (((rd_T89 l1 x7_1).f3).length : Int) := oq
              obtain ⟨ad318, e318, hx318_0, hx318_1, hx318_2, hx318_3⟩ := at_T91 HR315_3.out x10_4 p318 q318
              cases e318
              replace hx318_0 := cw hx318_0
              replace hx318_1 := cw hx318_1
              replace hx318_2 := cw hx318_2
              replace hx318_3 := cw hx318_3
              replace p318 := eq_true p318
              replace q318 := eq_true q318
              go_wp2
              go_ret
              exact ⟨eq', bq⟩
             rw [if_neg c23] at H
             have c23b0 : decide (40 < (((rd_T91 ((rd_T89 l1 x7_1).f3) x10_4).f1).size : Int)) = false := decide_eq_false c23
             have c23b1 : decide (40 < ((rd_T91 ((rd_T89 l1 x7_1).f3) x10_4).f1).size) = false := decide_eq_false (by omega)
             clear c23
             have H' := am H
             clear H
             obtain ⟨zds, zdt, zdu, zdv, zdw, zdx, zdy, zdz, zea, zeb, zec, zed⟩ := bc6 BK316
             have p318 : 0 ≤ (x10_4 : Int) := oq
             have q318 : x10_4 < (((rd_T89 l1 x7_1).f3).length : Int) := oq
             obtain ⟨ad318, e318, hx318_0, hx318_1, hx318_2, hx318_3⟩ := at_T91 HR315_3.out x10_4 p318 q318
             cases e318
             replace hx318_0 := cw hx318_0
             replace hx318_1 := cw hx318_1
             replace hx318_2 := cw hx318_2
             replace hx318_3 := cw hx318_3
             replace p318 := eq_true p318
             replace q318 := eq_true q318
             go_wp2
             go_roundg k4
             case measure => have := HK1.out; have := HJ5.out; have := HK3.out; have := HK4.out; omega
             case rel => exact ⟨(wrap64 (x10_4 + 1)), rq, H', ⟨by have := HK1.out; have := HJ5.out; have := HK3.out; have := HK4.out; omega⟩, ⟨bd BK316⟩, ⟨bq⟩⟩
            rw [if_neg c22] at H
            exact absurd H (by simp)
           rw [if_neg c21] at H
           have c21b0 : decide (x10_4 < (((rd_T89 l1 x7_1).f3).length : Int)) = false := decide_eq_false c21
           clear c21
           have H' := am H
           clear H
           obtain ⟨zee, zef, zeg, zeh, zei, zej, zek, zel, zem, zen, zeo, zep⟩ := bc6 BK316
           go_wp2
           go_roundg k4
           case measure => have := HK1.out; have := HJ5.out; have := HK3.out; have := HK4.out; omega
           case rel => exact ⟨(wrap64 (x7_1 + 1)), rq, H', ⟨by have := HK1.out; have := HJ5.out; have := HK3.out; have := HK4.out; omega⟩, ⟨bq⟩⟩
    rw [if_neg c5] at H
    exact absurd H (by simp)
   rw [if_neg c4] at H
   have c4b0 : decide (x7_1 < (l1.length : Int)) = false := decide_eq_false c4
   clear c4
   by_cases c27 : (l0.length : Int) ≤ 6
   ·rw [if_pos c27] at H
    have c27b0 : decide ((l0.length : Int) ≤ 6) = true := decide_eq_true c27
    have c27b1 : decide (l0.length ≤ 6) = true := decide_eq_true (by omega)
    clear c27
    obtain rfl := Option.some.inj H
    go_wp2
    go_ret
    exact ⟨eq', bq⟩
   rw [if_neg c27] at H
   have c27b0 : decide ((l0.length : Int) ≤ 6) = false := decide_eq_false c27
   have c27b1 : decide (l0.length ≤ 6) = false := decide_eq_false (by omega)
   clear c27
   obtain rfl := Option.some.inj H
   go_wp2
   go_ret
   exact ⟨eq', bq⟩
theorem pentaglottop_fewWords.calls (k : Nat) (A0_0 : Option Addr) (c0_0 : Nat) (l0_0 : List (S48)) (A0_1 : Option Addr) (c0_1 : Nat) (l0_1 : List (S89)) (A0_2 : Option Addr) (c0_2 : Nat) (l0_2 : List (S38)) (A0_3 : Option Addr) (c0_3 : Nat) (l0_3 : List (S34)) (r : Bool) (w : World) (hr0_0 : Kd.C k48 w A0_0 l0_0.length l0_0) (hc0_0 : l0_0.length ≤ c0_0) (hr0_1 : Kd.C k89 w A0_1 l0_1.length l0_1) (hc0_1 : l0_1.length ≤ c0_1) (hr0_2 : Kd.C k38 w A0_2 l0_2.length l0_2) (hc0_2 : l0_2.length ≤ c0_2) (hr0_3 : Kd.C k34 w A0_3 l0_3.length l0_3) (hc0_3 : l0_3.length ≤ c0_3) (h : pentaglottop_fewWords.f k l0_0 l0_1 l0_2 l0_3 = some r) :
  Calls Tryz.prog 5 #[.agg #[.slice A0_0 l0_0.length c0_0, .slice A0_1 l0_1.length c0_1, .slice A0_2 l0_2.length c0_2, .slice A0_3 l0_3.length c0_3]] w fun e w' => e = .returned (.bool r) ∧ Below w.heap.size w w' := by
 have hu27 := Tryz.underlying27
 have HR0_0 := am hr0_0
 have HC0_0 := am hc0_0
 clear hr0_0 hc0_0
 have HR0_1 := am hr0_1
 have HC0_1 := am hc0_1
 clear hr0_1 hc0_1
 have HR0_2 := am hr0_2
 have HC0_2 := am hc0_2
 clear hr0_2 hc0_2
 have HR0_3 := am hr0_3
 have HC0_3 := am hc0_3
 clear hr0_3 hc0_3
 have HB := am (Below.refl w.heap.size w)
 have H : (pentaglottop_fewWords.l0 k 0 l0_0 l0_1 l0_2 l0_3) = some r := h
 clear h
 have H' := am H
 clear H
 go_enter Tryz.func5, Tryz.ntmps5
 go_wp2_with (first | ((with_reducible refine gate_dst (N := 1) rfl ?_); (try (refine gate_guard (by rfl) ?_; dsimp only)); refine bx 1 #[.slice A0_0 l0_0.length c0_0, .slice A0_1 l0_1.length c0_1, .slice A0_2 l0_2.length c0_2, .slice A0_3 l0_3.length c0_3] 27 ?_; intro gb319 hg w2 hbox hb; have BK319 := am hbox; have GE319 := sz hg; replace HB := bs hb; clear hb hbox hg))
 go_loopg [3] k (fun kq v3 w' => ∃ (x3_1 : Int), v3 = .int .i64 x3_1 ∧ Aside0 (pentaglottop_fewWords.l0 kq x3_1 l0_0 l0_1 l0_2 l0_3 = some r) ∧ Aside0 (kq ≤ k) ∧ Aside0 (w'.heap[gb319]? = some (.cells #[(.slice A0_0 l0_0.length c0_0), (.slice A0_1 l0_1.length c0_1), (.slice A0_2 l0_2.length c0_2), (.slice A0_3 l0_3.length c0_3)] 27 (0, 0))) ∧ Aside0 (Below w.heap.size w w'))
 case atStart => exact ⟨(0), rq, H', ⟨Nat.le_refl _⟩, ⟨bd BK319⟩, ⟨bq⟩⟩
 case round =>
  clear H'
  obtain ⟨x3_1, rfl, HA, HK1, BK319, HB⟩ := hrel
  cases gk with
  | zero => exact absurd HA.out (by simp [pentaglottop_fewWords.l0])
  | succ k1 =>
   have H := HA.out
   clear HA
   simp only [pentaglottop_fewWords.l0] at H
   by_cases c3 : x3_1 < (l0_2.length : Int)
   ·rw [if_pos c3] at H
    have c3b0 : decide (x3_1 < (l0_2.length : Int)) = true := decide_eq_true c3
    clear c3
    have H' := am H
    clear H
    obtain ⟨zaa, zab, zac, zad, zae, zaf, zag, zah⟩ := bc4 BK319
    go_wp2
    go_loopg [4, 5] k1 (fun kq v4 v5 w' => ∃ (x4_2 : Int) (x5_2 : Int), v4 = .int .i64 x4_2 ∧ v5 = .int .i64 x5_2 ∧ Aside0 (pentaglottop_fewWords.l1 kq x3_1 x4_2 x5_2 l0_0 l0_1 l0_2 l0_3 = some r) ∧ Aside0 (kq ≤ k1) ∧ Aside0 (w'.heap[gb319]? = some (.cells #[(.slice A0_0 l0_0.length c0_0), (.slice A0_1 l0_1.length c0_1), (.slice A0_2 l0_2.length c0_2), (.slice A0_3 l0_3.length c0_3)] 27 (0, 0))) ∧ Aside0 (Below w.heap.size w w'))
    case atStart => exact ⟨(1), (0), rq, rq, H', ⟨Nat.le_refl _⟩, ⟨bd BK319⟩, ⟨bq⟩⟩
    case round =>
     clear H'
     clear c3b0 zaa zab zac zad zae zaf zag zah
     obtain ⟨x4_2, x5_2, rfl, rfl, HA, HK2, BK319, HB⟩ := hrel
     cases gk with
     | zero => exact absurd HA.out (by simp [pentaglottop_fewWords.l1])
     | succ k2 =>
      have H := HA.out
      clear HA
      simp only [pentaglottop_fewWords.l1] at H
      by_cases c5 : 0 ≤ x3_1
      ·rw [if_pos c5] at H
       have c5b0 : decide (0 ≤ x3_1) = true := decide_eq_true c5
       clear c5
       by_cases c6 : x3_1 < (l0_2.length : Int)
       ·rw [if_pos c6] at H
        have c6b0 : decide (x3_1 < (l0_2.length : Int)) = true := decide_eq_true c6
        clear c6
        by_cases c7 : x5_2 < (((rd_T38 l0_2 x3_1).f1).length : Int)
        ·rw [if_pos c7] at H
         have c7b0 : decide (x5_2 < (((rd_T38 l0_2 x3_1).f1).length : Int)) = true := decide_eq_true c7
         clear c7
         by_cases c8 : x5_2 < 4
         ·rw [if_pos c8] at H
          have c8b0 : decide (x5_2 < 4) = true := decide_eq_true c8
          clear c8
          by_cases c9 : 0 ≤ x5_2
          ·rw [if_pos c9] at H
           have c9b0 : decide (0 ≤ x5_2) = true := decide_eq_true c9
           clear c9
           obtain ⟨ji10, hji10⟩ : ∃ j_ : Int, (mn (((rd_T55 ((rd_T38 l0_2 x3_1).f1) x5_2).f1).length : Int) 50) = j_ := ⟨_, rfl⟩
           replace H : (pentaglottop_fewWords.l1 k2 x3_1 (wrap64 (x4_2 * (ji10))) (wrap64 (x5_2 + 1)) l0_0 l0_1 l0_2 l0_3) = some r := by first | (rw [hji10] at H; exact H) | (simp only [hji10] at H ⊢; exact H)
           have hji10_ : (if 50 < (((rd_T55 ((rd_T38 l0_2 x3_1).f1) x5_2).f1).length : Int) then 50 else (((rd_T55 ((rd_T38 l0_2 x3_1).f1) x5_2).f1).length : Int)) = ji10 := hji10
           have H' := am H
           clear H
           obtain ⟨zai, zaj, zak, zal, zam, zan, zao, zap⟩ := bc4 BK319
           have p321 : 0 ≤ (x3_1 : Int) := oq
           have q321 : x3_1 < (l0_2.length : Int) := oq
           obtain ⟨ad321, A321_1, c321_1, A321_2, c321_2, e321, hx321_0, hx321_1, hx321_2, hl321_1, hi321_1, hl321_2, hi321_2⟩ := at_T38 HR0_2.out x3_1 p321 q321
           cases e321
           replace hx321_0 := cw hx321_0
           replace hx321_1 := cw hx321_1
           replace hx321_2 := cw hx321_2
           have HR321_1 := am hi321_1
           have HC321_1 := am hl321_1
           clear hi321_1 hl321_1
           have HR321_2 := am hi321_2
           have HC321_2 := am hl321_2
           clear hi321_2 hl321_2
           replace p321 := eq_true p321
           replace q321 := eq_true q321
           have p322 : 0 ≤ (x3_1 : Int) := oq
           have q322 : x3_1 < (l0_2.length : Int) := oq
           obtain ⟨ad322, A322_1, c322_1, A322_2, c322_2, e322, hx322_0, hx322_1, hx322_2, hl322_1, hi322_1, hl322_2, hi322_2⟩ := at_T38 HR0_2.out x3_1 p322 q322
           obtain rfl : ad321 = ad322 := (by injection e322)
           replace hx322_0 := cw hx322_0
           replace hx322_1 := cw hx322_1
           replace hx322_2 := cw hx322_2
           have HR322_1 := am hi322_1
           have HC322_1 := am hl322_1
           clear hi322_1 hl322_1
           have HR322_2 := am hi322_2
           have HC322_2 := am hl322_2
           clear hi322_2 hl322_2
           replace p322 := eq_true p322
           replace q322 := eq_true q322
           have ea_ := Option.some.inj (hx321_1.symm.trans hx322_1)
           injection ea_ with ea_ en_ ec_
           subst ea_
           subst ec_
           clear en_
           have ea_ := Option.some.inj (hx321_2.symm.trans hx322_2)
           injection ea_ with ea_ en_ ec_
           subst ea_
           subst ec_
           clear en_
           have p323 : 0 ≤ (x5_2 : Int) := oq
           have q323 : x5_2 < (((rd_T38 l0_2 x3_1).f1).length : Int) := oq
           obtain ⟨ad323, A323_1, c323_1, e323, hx323_0, hx323_1, hl323_1, hi323_1⟩ := at_T55 HR322_1.out x5_2 p323 q323
           cases e323
           replace hx323_0 := cw hx323_0
           replace hx323_1 := cw hx323_1
           have HR323_1 := am hi323_1
           have HC323_1 := am hl323_1
           clear hi323_1 hl323_1
           replace p323 := eq_true p323
           replace q323 := eq_true q323
           go_wp2
           go_roundg k2
           case measure => have := HK1.out; have := HK2.out; omega
           case rel => exact ⟨(wrap64 (x4_2 * (ji10))), (wrap64 (x5_2 + 1)), (by first | rfl | (simp; done) | (simp only [← hji10] <;> (first | rfl | simp)) | (simp [*]; done)), rq, H', ⟨by have := HK1.out; have := HK2.out; omega⟩, ⟨bd BK319⟩, ⟨bq⟩⟩
          rw [if_neg c9] at H
          exact absurd H (by simp)
         rw [if_neg c8] at H
         have c8b0 : decide (x5_2 < 4) = false := decide_eq_false c8
         clear c8
         by_cases c12 : x4_2 > 40
         ·rw [if_pos c12] at H
          have c12b0 : decide (40 < x4_2) = true := decide_eq_true c12
          clear c12
          obtain rfl := Option.some.inj H
          obtain ⟨zaq, zar, zas, zat, zau, zav, zaw, zax⟩ := bc4 BK319
          have p321 : 0 ≤ (x3_1 : Int) := oq
          have q321 : x3_1 < (l0_2.length : Int) := oq
          obtain ⟨ad321, A321_1, c321_1, A321_2, c321_2, e321, hx321_0, hx321_1, hx321_2, hl321_1, hi321_1, hl321_2, hi321_2⟩ := at_T38 HR0_2.out x3_1 p321 q321
          cases e321
          replace hx321_0 := cw hx321_0
          replace hx321_1 := cw hx321_1
          replace hx321_2 := cw hx321_2
          have HR321_1 := am hi321_1
          have HC321_1 := am hl321_1
          clear hi321_1 hl321_1
          have HR321_2 := am hi321_2
          have HC321_2 := am hl321_2
          clear hi321_2 hl321_2
          replace p321 := eq_true p321
          replace q321 := eq_true q321
          go_wp2
          go_ret
          exact ⟨eq', bq⟩
         rw [if_neg c12] at H
         have c12b0 : decide (40 < x4_2) = false := decide_eq_false c12
         clear c12
         by_cases c14 : (((rd_T38 l0_2 x3_1).f1).length : Int) > 4
         ·rw [if_pos c14] at H
          have c14b0 : decide (4 < (((rd_T38 l0_2 x3_1).f1).length : Int)) = true := decide_eq_true c14
          have c14b1 : decide (4 < ((rd_T38 l0_2 x3_1).f1).length) = true := decide_eq_true (by omega)
          clear c14
          obtain rfl := Option.some.inj H
          obtain ⟨zay, zaz, zba, zbb, zbc, zbd, zbe, zbf⟩ := bc4 BK319
          have p321 : 0 ≤ (x3_1 : Int) := oq
          have q321 : x3_1 < (l0_2.length : Int) := oq
          obtain ⟨ad321, A321_1, c321_1, A321_2, c321_2, e321, hx321_0, hx321_1, hx321_2, hl321_1, hi321_1, hl321_2, hi321_2⟩ := at_T38 HR0_2.out x3_1 p321 q321
          cases e321
          replace hx321_0 := cw hx321_0
          replace hx321_1 := cw hx321_1
          replace hx321_2 := cw hx321_2
          have HR321_1 := am hi321_1
          have HC321_1 := am hl321_1
          clear hi321_1 hl321_1
          have HR321_2 := am hi321_2
          have HC321_2 := am hl321_2
          clear hi321_2 hl321_2
          replace p321 := eq_true p321
          replace q321 := eq_true q321
          have p324 : 0 ≤ (x3_1 : Int) := oq
          have q324 : x3_1 < (l0_2.length : Int) := oq
          obtain ⟨ad324, A324_1, c324_1, A324_2, c324_2, e324, hx324_0, hx324_1, hx324_2, hl324_1, hi324_1, hl324_2, hi324_2⟩ := at_T38 HR0_2.out x3_1 p324 q324
          obtain rfl : ad321 = ad324 := (by injection e324)
          replace hx324_0 := cw hx324_0
          replace hx324_1 := cw hx324_1
          replace hx324_2 := cw hx324_2
          have HR324_1 := am hi324_1
          have HC324_1 := am hl324_1
          clear hi324_1 hl324_1
          have HR324_2 := am hi324_2
          have HC324_2 := am hl324_2
          clear hi324_2 hl324_2
          replace p324 := eq_true p324
          replace q324 := eq_true q324
          have ea_ := Option.some.inj (hx321_1.symm.trans hx324_1)
          injection ea_ with ea_ en_ ec_
          subst ea_
          subst ec_
          clear en_
          have ea_ := Option.some.inj (hx321_2.symm.trans hx324_2)
          injection ea_ with ea_ en_ ec_
          subst ea_
          subst ec_
          clear en_
          go_wp2
          go_ret
          exact ⟨eq', bq⟩
         rw [if_neg c14] at H
         have c14b0 : decide (4 < (((rd_T38 l0_2 x3_1).f1).length : Int)) = false := decide_eq_false c14
         have c14b1 : decide (4 < ((rd_T38 l0_2 x3_1).f1).length) = false := decide_eq_false (by omega)
         clear c14
         by_cases c16 : (((rd_T38 l0_2 x3_1).f2).length : Int) > 6
         ·rw [if_pos c16] at H
          have c16b0 : decide (6 < (((rd_T38 l0_2 x3_1).f2).length : Int)) = true := decide_eq_true c16
          have c16b1 : decide (6 < ((rd_T38 l0_2 x3_1).f2).length) = true := decide_eq_true (by omega)
          clear c16
          obtain rfl := Option.some.inj H
          obtain ⟨zbg, zbh, zbi, zbj, zbk, zbl, zbm, zbn⟩ := bc4 BK319
          have p321 : 0 ≤ (x3_1 : Int) := oq
          have q321 : x3_1 < (l0_2.length : Int) := oq
          obtain ⟨ad321, A321_1, c321_1, A321_2, c321_2, e321, hx321_0, hx321_1, hx321_2, hl321_1, hi321_1, hl321_2, hi321_2⟩ := at_T38 HR0_2.out x3_1 p321 q321
          cases e321
          replace hx321_0 := cw hx321_0
          replace hx321_1 := cw hx321_1
          replace hx321_2 := cw hx321_2
          have HR321_1 := am hi321_1
          have HC321_1 := am hl321_1
          clear hi321_1 hl321_1
          have HR321_2 := am hi321_2
          have HC321_2 := am hl321_2
          clear hi321_2 hl321_2
          replace p321 := eq_true p321
          replace q321 := eq_true q321
          have p324 : 0 ≤ (x3_1 : Int) := oq
          have q324 : x3_1 < (l0_2.length : Int) := oq
          obtain ⟨ad324, A324_1, c324_1, A324_2, c324_2, e324, hx324_0, hx324_1, hx324_2, hl324_1, hi324_1, hl324_2, hi324_2⟩ := at_T38 HR0_2.out x3_1 p324 q324
          obtain rfl : ad321 = ad324 := (by injection e324)
          replace hx324_0 := cw hx324_0
          replace hx324_1 := cw hx324_1
          replace hx324_2 := cw hx324_2
          have HR324_1 := am hi324_1
          have HC324_1 := am hl324_1
          clear hi324_1 hl324_1
          have HR324_2 := am hi324_2
          have HC324_2 := am hl324_2
          clear hi324_2 hl324_2
          replace p324 := eq_true p324
          replace q324 := eq_true q324
          have ea_ := Option.some.inj (hx321_1.symm.trans hx324_1)
          injection ea_ with ea_ en_ ec_
          subst ea_
          subst ec_
          clear en_
          have ea_ := Option.some.inj (hx321_2.symm.trans hx324_2)
          injection ea_ with ea_ en_ ec_
          subst ea_
          subst ec_
          clear en_
          have p325 : 0 ≤ (x3_1 : Int) := oq
          have q325 : x3_1 < (l0_2.length : Int) := oq
          obtain ⟨ad325, A325_1, c325_1, A325_2, c325_2, e325, hx325_0, hx325_1, hx325_2, hl325_1, hi325_1, hl325_2, hi325_2⟩ := at_T38 HR0_2.out x3_1 p325 q325
          obtain rfl : ad321 = ad325 := (by injection e325)
          replace hx325_0 := cw hx325_0
          replace hx325_1 := cw hx325_1
          replace hx325_2 := cw hx325_2
          have HR325_1 := am hi325_1
          have HC325_1 := am hl325_1
          clear hi325_1 hl325_1
          have HR325_2 := am hi325_2
          have HC325_2 := am hl325_2
          clear hi325_2 hl325_2
          replace p325 := eq_true p325
          replace q325 := eq_true q325
          have ea_ := Option.some.inj (hx321_1.symm.trans hx325_1)
          injection ea_ with ea_ en_ ec_
          subst ea_
          subst ec_
          clear en_
          have ea_ := Option.some.inj (hx321_2.symm.trans hx325_2)
          injection ea_ with ea_ en_ ec_
          subst ea_
          subst ec_
          clear en_
          go_wp2
          go_ret
          exact ⟨eq', bq⟩
         rw [if_neg c16] at H
         have c16b0 : decide (6 < (((rd_T38 l0_2 x3_1).f2).length : Int)) = false := decide_eq_false c16
         have c16b1 : decide (6 < ((rd_T38 l0_2 x3_1).f2).length) = false := decide_eq_false (by omega)
         clear c16
         have H' := am H
         clear H
         obtain ⟨zbo, zbp, zbq, zbr, zbs, zbt, zbu, zbv⟩ := bc4 BK319
         have p321 : 0 ≤ (x3_1 : Int) := oq
         have q321 : x3_1 < (l0_2.length : Int) := oq
         obtain ⟨ad321, A321_1, c321_1, A321_2, c321_2, e321, hx321_0, hx321_1, hx321_2, hl321_1, hi321_1, hl321_2, hi321_2⟩ := at_T38 HR0_2.out x3_1 p321 q321
         cases e321
         replace hx321_0 := cw hx321_0
         replace hx321_1 := cw hx321_1
         replace hx321_2 := cw hx321_2
         have HR321_1 := am hi321_1
         have HC321_1 := am hl321_1
         clear hi321_1 hl321_1
         have HR321_2 := am hi321_2
         have HC321_2 := am hl321_2
         clear hi321_2 hl321_2
         replace p321 := eq_true p321
         replace q321 := eq_true q321
         have p324 : 0 ≤ (x3_1 : Int) := oq
         have q324 : x3_1 < (l0_2.length : Int) := oq
         obtain ⟨ad324, A324_1, c324_1, A324_2, c324_2, e324, hx324_0, hx324_1, hx324_2, hl324_1, hi324_1, hl324_2, hi324_2⟩ := at_T38 HR0_2.out x3_1 p324 q324
         obtain rfl : ad321 = ad324 := (by injection e324)
         replace hx324_0 := cw hx324_0
         replace hx324_1 := cw hx324_1
         replace hx324_2 := cw hx324_2
         have HR324_1 := am hi324_1
         have HC324_1 := am hl324_1
         clear hi324_1 hl324_1
         have HR324_2 := am hi324_2
         have HC324_2 := am hl324_2
         clear hi324_2 hl324_2
         replace p324 := eq_true p324
         replace q324 := eq_true q324
         have ea_ := Option.some.inj (hx321_1.symm.trans hx324_1)
         injection ea_ with ea_ en_ ec_
         subst ea_
         subst ec_
         clear en_
         have ea_ := Option.some.inj (hx321_2.symm.trans hx324_2)
         injection ea_ with ea_ en_ ec_
         subst ea_
         subst ec_
         clear en_
         have p325 : 0 ≤ (x3_1 : Int) := oq
         have q325 : x3_1 < (l0_2.length : Int) := oq
         obtain ⟨ad325, A325_1, c325_1, A325_2, c325_2, e325, hx325_0, hx325_1, hx325_2, hl325_1, hi325_1, hl325_2, hi325_2⟩ := at_T38 HR0_2.out x3_1 p325 q325
         obtain rfl : ad321 = ad325 := (by injection e325)
         replace hx325_0 := cw hx325_0
         replace hx325_1 := cw hx325_1
         replace hx325_2 := cw hx325_2
         have HR325_1 := am hi325_1
         have HC325_1 := am hl325_1
         clear hi325_1 hl325_1
         have HR325_2 := am hi325_2
         have HC325_2 := am hl325_2
         clear hi325_2 hl325_2
         replace p325 := eq_true p325
         replace q325 := eq_true q325
         have ea_ := Option.some.inj (hx321_1.symm.trans hx325_1)
         injection ea_ with ea_ en_ ec_
         subst ea_
         subst ec_
         clear en_
         have ea_ := Option.some.inj (hx321_2.symm.trans hx325_2)
         injection ea_ with ea_ en_ ec_
         subst ea_
         subst ec_
         clear en_
         go_wp2
         go_roundg k2
         case measure => have := HK1.out; have := HK2.out; omega
         case rel => exact ⟨(wrap64 (x3_1 + 1)), rq, H', ⟨by have := HK1.out; have := HK2.out; omega⟩, ⟨bd BK319⟩, ⟨bq⟩⟩
        rw [if_neg c7] at H
        have c7b0 : decide (x5_2 < (((rd_T38 l0_2 x3_1).f1).length : Int)) = false := decide_eq_false c7
        clear c7
        by_cases c19 : x4_2 > 40
        ·rw [if_pos c19] at H
         have c19b0 : decide (40 < x4_2) = true := decide_eq_true c19
         clear c19
         obtain rfl := Option.some.inj H
         obtain ⟨zbw, zbx, zby, zbz, zca, zcb, zcc, zcd⟩ := bc4 BK319
         have p321 : 0 ≤ (x3_1 : Int) := oq
         have q321 : x3_1 < (l0_2.length : Int) := oq
         obtain ⟨ad321, A321_1, c321_1, A321_2, c321_2, e321, hx321_0, hx321_1, hx321_2, hl321_1, hi321_1, hl321_2, hi321_2⟩ := at_T38 HR0_2.out x3_1 p321 q321
         cases e321
         replace hx321_0 := cw hx321_0
         replace hx321_1 := cw hx321_1
         replace hx321_2 := cw hx321_2
         have HR321_1 := am hi321_1
         have HC321_1 := am hl321_1
         clear hi321_1 hl321_1
         have HR321_2 := am hi321_2
         have HC321_2 := am hl321_2
         clear hi321_2 hl321_2
         replace p321 := eq_true p321
         replace q321 := eq_true q321
         go_wp2
         go_ret
         exact ⟨eq', bq⟩
        rw [if_neg c19] at H
        have c19b0 : decide (40 < x4_2) = false := decide_eq_false c19
        clear c19
        by_cases c21 : (((rd_T38 l0_2 x3_1).f1).length : Int) > 4
        ·rw [if_pos c21] at H
         have c21b0 : decide (4 < (((rd_T38 l0_2 x3_1).f1).length : Int)) = true := decide_eq_true c21
         have c21b1 : decide (4 < ((rd_T38 l0_2 x3_1).f1).length) = true := decide_eq_true (by omega)
         clear c21
         obtain rfl := Option.some.inj H
         obtain ⟨zce, zcf, zcg, zch, zci, zcj, zck, zcl⟩ := bc4 BK319
         have p321 : 0 ≤ (x3_1 : Int) := oq
         have q321 : x3_1 < (l0_2.length : Int) := oq
         obtain ⟨ad321, A321_1, c321_1, A321_2, c321_2, e321, hx321_0, hx321_1, hx321_2, hl321_1, hi321_1, hl321_2, hi321_2⟩ := at_T38 HR0_2.out x3_1 p321 q321
         cases e321
         replace hx321_0 := cw hx321_0
         replace hx321_1 := cw hx321_1
         replace hx321_2 := cw hx321_2
         have HR321_1 := am hi321_1
         have HC321_1 := am hl321_1
         clear hi321_1 hl321_1
         have HR321_2 := am hi321_2
         have HC321_2 := am hl321_2
         clear hi321_2 hl321_2
         replace p321 := eq_true p321
         replace q321 := eq_true q321
         have p326 : 0 ≤ (x3_1 : Int) := oq
         have q326 : x3_1 < (l0_2.length : Int) := oq
         obtain ⟨ad326, A326_1, c326_1, A326_2, c326_2, e326, hx326_0, hx326_1, hx326_2, hl326_1, hi326_1, hl326_2, hi326_2⟩ := at_T38 HR0_2.out x3_1 p326 q326
         obtain rfl : ad321 = ad326 := (by injection e326)
         replace hx326_0 := cw hx326_0
         replace hx326_1 := cw hx326_1
         replace hx326_2 := cw hx326_2
         have HR326_1 := am hi326_1
         have HC326_1 := am hl326_1
         clear hi326_1 hl326_1
         have HR326_2 := am hi326_2
         have HC326_2 := am hl326_2
         clear hi326_2 hl326_2
         replace p326 := eq_true p326
         replace q326 := eq_true q326
         have ea_ := Option.some.inj (hx321_1.symm.trans hx326_1)
         injection ea_ with ea_ en_ ec_
         subst ea_
         subst ec_
         clear en_
         have ea_ := Option.some.inj (hx321_2.symm.trans hx326_2)
         injection ea_ with ea_ en_ ec_
         subst ea_
         subst ec_
         clear en_
         go_wp2
         go_ret
         exact ⟨eq', bq⟩
        rw [if_neg c21] at H
        have c21b0 : decide (4 < (((rd_T38 l0_2 x3_1).f1).length : Int)) = false := decide_eq_false c21
        have c21b1 : decide (4 < ((rd_T38 l0_2 x3_1).f1).length) = false := decide_eq_false (by omega)
        clear c21
        by_cases c23 : (((rd_T38 l0_2 x3_1).f2).length : Int) > 6
        ·rw [if_pos c23] at H
         have c23b0 : decide (6 < (((rd_T38 l0_2 x3_1).f2).length : Int)) = true := decide_eq_true c23
         have c23b1 : decide (6 < ((rd_T38 l0_2 x3_1).f2).length) = true := decide_eq_true (by omega)
         clear c23
         obtain rfl := Option.some.inj H
         obtain ⟨zcm, zcn, zco, zcp, zcq, zcr, zcs, zct⟩ := bc4 BK319
         have p321 : 0 ≤ (x3_1 : Int) := oq
         have q321 : x3_1 < (l0_2.length : Int) := oq
         obtain ⟨ad321, A321_1, c321_1, A321_2, c321_2, e321, hx321_0, hx321_1, hx321_2, hl321_1, hi321_1, hl321_2, hi321_2⟩ := at_T38 HR0_2.out x3_1 p321 q321
         cases e321
         replace hx321_0 := cw hx321_0
         replace hx321_1 := cw hx321_1
         replace hx321_2 := cw hx321_2
         have HR321_1 := am hi321_1
         have HC321_1 := am hl321_1
         clear hi321_1 hl321_1
         have HR321_2 := am hi321_2
         have HC321_2 := am hl321_2
         clear hi321_2 hl321_2
         replace p321 := eq_true p321
         replace q321 := eq_true q321
         have p326 : 0 ≤ (x3_1 : Int) := oq
         have q326 : x3_1 < (l0_2.length : Int) := oq
         obtain ⟨ad326, A326_1, c326_1, A326_2, c326_2, e326, hx326_0, hx326_1, hx326_2, hl326_1, hi326_1, hl326_2, hi326_2⟩ := at_T38 HR0_2.out x3_1 p326 q326
         obtain rfl : ad321 = ad326 := (by injection e326)
         replace hx326_0 := cw hx326_0
         replace hx326_1 := cw hx326_1
         replace hx326_2 := cw hx326_2
         have HR326_1 := am hi326_1
         have HC326_1 := am hl326_1
         clear hi326_1 hl326_1
         have HR326_2 := am hi326_2
         have HC326_2 := am hl326_2
         clear hi326_2 hl326_2
         replace p326 := eq_true p326
         replace q326 := eq_true q326
         have ea_ := Option.some.inj (hx321_1.symm.trans hx326_1)
         injection ea_ with ea_ en_ ec_
         subst ea_
         subst ec_
         clear en_
         have ea_ := Option.some.inj (hx321_2.symm.trans hx326_2)
         injection ea_ with ea_ en_ ec_
         subst ea_
         subst ec_
         clear en_
         have p327 : 0 ≤ (x3_1 : Int) := oq
         have q327 : x3_1 < (l0_2.length : Int) := oq
         obtain ⟨ad327, A327_1, c327_1, A327_2, c327_2, e327, hx327_0, hx327_1, hx327_2, hl327_1, hi327_1, hl327_2, hi327_2⟩ := at_T38 HR0_2.out x3_1 p327 q327
         obtain rfl : ad321 = ad327 := (by injection e327)
         replace hx327_0 := cw hx327_0
         replace hx327_1 := cw hx327_1
         replace hx327_2 := cw hx327_2
         have HR327_1 := am hi327_1
         have HC327_1 := am hl327_1
         clear hi327_1 hl327_1
         have HR327_2 := am hi327_2
         have HC327_2 := am hl327_2
         clear hi327_2 hl327_2
         replace p327 := eq_true p327
         replace q327 := eq_true q327
         have ea_ := Option.some.inj (hx321_1.symm.trans hx327_1)
         injection ea_ with ea_ en_ ec_
         subst ea_
         subst ec_
         clear en_
         have ea_ := Option.some.inj (hx321_2.symm.trans hx327_2)
         injection ea_ with ea_ en_ ec_
         subst ea_
         subst ec_
         clear en_
         go_wp2
         go_ret
         exact ⟨eq', bq⟩
        rw [if_neg c23] at H
        have c23b0 : decide (6 < (((rd_T38 l0_2 x3_1).f2).length : Int)) = false := decide_eq_false c23
        have c23b1 : decide (6 < ((rd_T38 l0_2 x3_1).f2).length) = false := decide_eq_false (by omega)
        clear c23
        have H' := am H
        clear H
        obtain ⟨zcu, zcv, zcw, zcx, zcy, zcz, zda, zdb⟩ := bc4 BK319
        have p321 : 0 ≤ (x3_1 : Int) := oq
        have q321 : x3_1 < (l0_2.length : Int) := oq
        obtain ⟨ad321, A321_1, c321_1, A321_2, c321_2, e321, hx321_0, hx321_1, hx321_2, hl321_1, hi321_1, hl321_2, hi321_2⟩ := at_T38 HR0_2.out x3_1 p321 q321
        cases e321
        replace hx321_0 := cw hx321_0
        replace hx321_1 := cw hx321_1
        replace hx321_2 := cw hx321_2
        have HR321_1 := am hi321_1
        have HC321_1 := am hl321_1
        clear hi321_1 hl321_1
        have HR321_2 := am hi321_2
        have HC321_2 := am hl321_2
        clear hi321_2 hl321_2
        replace p321 := eq_true p321
        replace q321 := eq_true q321
        have p326 : 0 ≤ (x3_1 : Int) := oq
        have q326 : x3_1 < (l0_2.length : Int) := oq
        obtain ⟨ad326, A326_1, c326_1, A326_2, c326_2, e326, hx326_0, hx326_1, hx326_2, hl326_1, hi326_1, hl326_2, hi326_2⟩ := at_T38 HR0_2.out x3_1 p326 q326
        obtain rfl : ad321 = ad326 := (by injection e326)
        replace hx326_0 := cw hx326_0
        replace hx326_1 := cw hx326_1
        replace hx326_2 := cw hx326_2
        have HR326_1 := am hi326_1
        have HC326_1 := am hl326_1
        clear hi326_1 hl326_1
        have HR326_2 := am hi326_2
        have HC326_2 := am hl326_2
        clear hi326_2 hl326_2
        replace p326 := eq_true p326
        replace q326 := eq_true q326
        have ea_ := Option.some.inj (hx321_1.symm.trans hx326_1)
        injection ea_ with ea_ en_ ec_
        subst ea_
        subst ec_
        clear en_
        have ea_ := Option.some.inj (hx321_2.symm.trans hx326_2)
        injection ea_ with ea_ en_ ec_
        subst ea_
        subst ec_
        clear en_
        have p327 : 0 ≤ (x3_1 : Int) := oq
        have q327 : x3_1 < (l0_2.length : Int) := oq
        obtain ⟨ad327, A327_1, c327_1, A327_2, c327_2, e327, hx327_0, hx327_1, hx327_2, hl327_1, hi327_1, hl327_2, hi327_2⟩ := at_T38 HR0_2.out x3_1 p327 q327
        obtain rfl : ad321 = ad327 := (by injection e327)
        replace hx327_0 := cw hx327_0
        replace hx327_1 := cw hx327_1
        replace hx327_2 := cw hx327_2
        have HR327_1 := am hi327_1
        have HC327_1 := am hl327_1
        clear hi327_1 hl327_1
        have HR327_2 := am hi327_2
        have HC327_2 := am hl327_2
        clear hi327_2 hl327_2
        replace p327 := eq_true p327
        replace q327 := eq_true q327
        have ea_ := Option.some.inj (hx321_1.symm.trans hx327_1)
        injection ea_ with ea_ en_ ec_
        subst ea_
        subst ec_
        clear en_
        have ea_ := Option.some.inj (hx321_2.symm.trans hx327_2)
        injection ea_ with ea_ en_ ec_
        subst ea_
        subst ec_
        clear en_
        go_wp2
        go_roundg k2
        case measure => have := HK1.out; have := HK2.out; omega
        case rel => exact ⟨(wrap64 (x3_1 + 1)), rq, H', ⟨by have := HK1.out; have := HK2.out; omega⟩, ⟨bd BK319⟩, ⟨bq⟩⟩
       rw [if_neg c6] at H
       exact absurd H (by simp)
      rw [if_neg c5] at H
      exact absurd H (by simp)
   rw [if_neg c3] at H
   have c3b0 : decide (x3_1 < (l0_2.length : Int)) = false := decide_eq_false c3
   clear c3
   by_cases c26 : (l0_3.length : Int) ≤ 8
   ·rw [if_pos c26] at H
    have c26b0 : decide ((l0_3.length : Int) ≤ 8) = true := decide_eq_true c26
    have c26b1 : decide (l0_3.length ≤ 8) = true := decide_eq_true (by omega)
    clear c26
    by_cases c27 : (l0_2.length : Int) ≤ 3
    ·rw [if_pos c27] at H
     have c27b0 : decide ((l0_2.length : Int) ≤ 3) = true := decide_eq_true c27
     have c27b1 : decide (l0_2.length ≤ 3) = true := decide_eq_true (by omega)
     clear c27
     by_cases c28 : (l0_0.length : Int) ≤ 30
     ·rw [if_pos c28] at H
      have c28b0 : decide ((l0_0.length : Int) ≤ 30) = true := decide_eq_true c28
      have c28b1 : decide (l0_0.length ≤ 30) = true := decide_eq_true (by omega)
      clear c28
      replace H := Option.bind_eq_some_iff.mp H
      obtain ⟨t320, A290, H⟩ := H
      (try dsimp only at H)
      have A29 := am A290
      clear A290
      obtain rfl := Option.some.inj H
      obtain ⟨zdc, zdd, zde, zdf, zdg, zdh, zdi, zdj⟩ := bc4 BK319
      go_wp2_with (first | (go_at_call 13; (refine (pentaglottop_fewRules.calls k1 _ _ ([] : List (S48)) _ _ l0_1 4 t320 _ ?side1 ?side2 ?side3 ?side4 A29.out).mono ?_); (case side1 => exact Kd.C_nil _ _); (case side2 => exact Nat.le_refl _); (case side3 => repeat (first | exact (Kd.C_below HR0_1.out HB.out) | (with_reducible refine Kd.C_alloc ?_ _) | (with_reducible refine Kd.C_drewN ?_ _) | (with_reducible refine Kd.C_drew ?_))); (case side4 => exact HC0_1.out); rintro e w31 ⟨rfl, hb⟩; replace BK319 := bk BK319 hb; replace HB := bs hb; (try clear hb)))
      go_ret
      exact ⟨eq', bq⟩
     rw [if_neg c28] at H
     have c28b0 : decide ((l0_0.length : Int) ≤ 30) = false := decide_eq_false c28
     have c28b1 : decide (l0_0.length ≤ 30) = false := decide_eq_false (by omega)
     clear c28
     obtain rfl := Option.some.inj H
     obtain ⟨zdk, zdl, zdm, zdn, zdo, zdp, zdq, zdr⟩ := bc4 BK319
     go_wp2
     go_ret
     exact ⟨eq', bq⟩
    rw [if_neg c27] at H
    have c27b0 : decide ((l0_2.length : Int) ≤ 3) = false := decide_eq_false c27
    have c27b1 : decide (l0_2.length ≤ 3) = false := decide_eq_false (by omega)
    clear c27
    obtain rfl := Option.some.inj H
    obtain ⟨zds, zdt, zdu, zdv, zdw, zdx, zdy, zdz⟩ := bc4 BK319
    go_wp2
    go_ret
    exact ⟨eq', bq⟩
   rw [if_neg c26] at H
   have c26b0 : decide ((l0_3.length : Int) ≤ 8) = false := decide_eq_false c26
   have c26b1 : decide (l0_3.length ≤ 8) = false := decide_eq_false (by omega)
   clear c26
   obtain rfl := Option.some.inj H
   obtain ⟨zea, zeb, zec, zed, zee, zef, zeg, zeh⟩ := bc4 BK319
   go_wp2
   go_ret
   exact ⟨eq', bq⟩
theorem alphabet_Valid.calls (k : Nat) (A0 : Option Addr) (c0 : Nat) (l : List S48) (r : Bool) (w : World) (hr0 : Kd.C k48 w A0 l.length l) (hc0 : l.length ≤ c0) (h : alphabet_Valid.f k l = some r) :
  Calls Tryz.prog 31 #[.slice A0 l.length c0] w fun e w' => e = .returned (.bool r) ∧ Below w.heap.size w w' := by
 unfold alphabet_Valid.f at h
 have HR := am hr0
 clear hr0
 by_cases h1 : (l.length : Int) < 1
 ·rw [if_pos h1] at h
  obtain rfl := Option.some.inj h
  have b1 : decide ((l.length : Int) < 1) = true := decide_eq_true h1
  clear h1 h
  go_enter Tryz.func31, Tryz.ntmps31
  go_wp2
  go_ret
  exact ⟨rfl, Below.refl _ _⟩
 rw [if_neg h1] at h
 have b1 : decide ((l.length : Int) < 1) = false := decide_eq_false h1
 by_cases h2 : (l.length : Int) > 64
 ·rw [if_pos h2] at h
  obtain rfl := Option.some.inj h
  have b2 : decide (64 < (l.length : Int)) = true := decide_eq_true h2
  clear h1 h2 h
  go_enter Tryz.func31, Tryz.ntmps31
  go_wp2
  go_ret
  exact ⟨rfl, Below.refl _ _⟩
 rw [if_neg h2] at h
 have b2 : decide (64 < (l.length : Int)) = false := decide_eq_false h2
 have H' := am h
 have HL := am h2
 clear h1 h2 h
 go_enter Tryz.func31, Tryz.ntmps31
 go_wp2
 go_loopg [15] k (fun kq v15 w' => ∃ (i : Int), v15 = .int .i64 i ∧ Aside0 (0 ≤ i ∧ i ≤ l.length) ∧ Aside0 (alphabet_Valid.l0 kq l i = some r) ∧ Aside0 (kq ≤ k) ∧ Aside0 (Below w.heap.size w w'))
 case atStart => exact ⟨0, (by first | rfl | (simp; done)), ⟨by omega, by omega⟩, H', ⟨Nat.le_refl _⟩, ⟨Below.refl _ _⟩⟩
 case round =>
  clear H'
  obtain ⟨i, rfl, HI, HA, HK, HB⟩ := hrel
  cases gk with
  | zero => exact absurd HA.out (by simp [alphabet_Valid.l0])
  | succ k1 =>
   have H := HA.out
   clear HA
   simp only [alphabet_Valid.l0] at H
   by_cases c1 : i < (l.length : Int)
   ·rw [if_pos c1] at H
    have HRr := am (Kd.C_below HR.out HB.out)
    obtain ⟨ad2, ead2, hx0, hx1⟩ := at_T48 HRr.out i HI.out.1 c1
    subst ead2
    have p1 : (0 ≤ i) = True := eq_true HI.out.1
    have q2 : (i < (l.length : Int)) = True := eq_true c1
    have q2b : decide (i < (l.length : Int)) = true := decide_eq_true c1
    have C1 := am c1
    have hwi : wrap64 (i + 1) = i + 1 := by have := HL.out; have := HI.out; unfold wrap64; omega
    by_cases c2 : (rd_T48 l i).f0 ≤ 32
    ·rw [if_pos c2] at H
     obtain rfl := Option.some.inj H
     have c2b : decide ((rd_T48 l i).f0 ≤ 32) = true := decide_eq_true c2
     clear H c1 c2
     go_wp2
     go_ret
     exact ⟨rfl, below_alloc HB.out _⟩
    rw [if_neg c2] at H
    have c2b : decide ((rd_T48 l i).f0 ≤ 32) = false := decide_eq_false c2
    obtain ⟨t, A, H⟩ := Option.bind_eq_some_iff.mp H
    have AV := am A
    clear A c2 c1
    cases t with
    | true =>
     have H' := am (show alphabet_Valid.l0 k1 l (i + 1) = some r by simpa using H)
     clear H
     go_wp2_with (first | (go_at_call 58; refine (utf8_ValidRune.calls k1 (rd_T48 l i).f0 true _ AV.out).mono ?_; rintro e w1 ⟨rfl, hd⟩; have HB1 := am (below_step (below_alloc HB.out _) hd.below); clear HB hd))
     go_roundg k1
     case measure => have := HK.out; omega
     case rel => exact ⟨i + 1, by rw [hwi], ⟨by have := HI.out; omega, by have := C1.out; omega⟩, H', ⟨by have := HK.out; omega⟩, HB1⟩
    | false =>
     obtain rfl : false = r := by simpa using H
     clear H
     go_wp2_with (first | (go_at_call 58; refine (utf8_ValidRune.calls k1 (rd_T48 l i).f0 false _ AV.out).mono ?_; rintro e w1 ⟨rfl, hd⟩; have HB1 := am (below_step (below_alloc HB.out _) hd.below); clear HB hd))
     go_ret
     exact ⟨rfl, HB1.out⟩
   rw [if_neg c1] at H
   have q2b : decide (i < (l.length : Int)) = false := decide_eq_false c1
   by_cases c3 : good l = true
   ·rw [if_pos c3] at H
    obtain rfl := Option.some.inj H
    have C3 := am c3
    clear H c1 c3
    go_wp2_with (first | (go_at_call 59; refine (alphabet_indices.calls A0 c0 l _ (Kd.C_below HR.out HB.out) hc0 C3.out (by have := HL.out; omega)).mono ?_; rintro e w1 ⟨b, n, rfl, hb, ht, hbel⟩; have hlen := ht.length 3; have HB1 := am (below_step HB.out hbel); clear HB hb ht hbel))
    go_ret
    exact ⟨by first | rfl | simp, HB1.out⟩
   rw [if_neg c3] at H
   exact absurd H (by simp)
end Go.Proofs.YtcoialpohgfikaaGreatDoor.C
