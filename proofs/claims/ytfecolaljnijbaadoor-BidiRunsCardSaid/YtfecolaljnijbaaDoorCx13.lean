-- WRITTEN BY mkprint.py, a program of this session, over the kit's print of the given program. Not trusted: Lean checks it.
import Derived.Test.YtfecolaljnijbaaDoorCx0
import Derived.Test.YtfecolaljnijbaaDoorCx2
import Derived.Test.YtfecolaljnijbaaDoorCx10
namespace Go.Proofs.YtfecolaljnijbaaDoor.C
open Go.RowKit Go.Proofs.YtfecolaljnijbaaDoorW.PrintWords Go.Proofs.YtfecolaljnijbaaDoorW.PrintLast Go.Proofs.YtfecolaljnijbaaDoorW.PrintMore
attribute [local go_sem] max2_int min2_int max_two min_two max_three min_three max_four min_four   -- for this text's walks alone
set_option linter.unusedVariables false
set_option linter.unusedSimpArgs false

/-! ### bidi_Order: function 20 -/
set_option maxHeartbeats 8000000 in
set_option maxRecDepth 100000 in
theorem part_calls {w : World} {g : Nat} {zs : List Int} (h : Blk w g zs) (off m c : Nat) (hm : off + m ≤ zs.length) (hs : zs.length ≤ 1000000) :
    Calls Tryd.prog 39 #[.slice (some ⟨g, off, none⟩) m c] w fun e w' => e = .returned (.tuple #[]) ∧ Blk w' g (revAt zs off (off + m)) ∧ w.grownBy w' (some g) := by
  have HB0 := Aside0.mk h
  have HM := Aside0.mk hm
  have HS := Aside0.mk hs
  have hw0 : wrap64 ((m : Int) - 1) = (m : Int) - 1 := by
    have h1 : (m : Int) ≤ 1000000 := by omega
    have h2 : (0 : Int) ≤ m := by omega
    unfold wrap64
    omega
  clear h hm hs
  go_enter Tryd.func39, Tryd.ntmps39
  go_wp2
  go_loopg [2, 3] (m + 1) (fun kq v2 v3 w' => ∃ (a : Nat) (b : Int) (ys : List Int), v2 = .int .i64 (a : Int) ∧ v3 = .int .i64 b ∧ Aside0 (b + 1 + a = m) ∧ Aside0 (2 * a ≤ m) ∧ Aside0 (m < 2 * a + kq) ∧ Aside0 (Swp zs off m a ys) ∧ Aside0 (Blk w' g ys) ∧ Aside0 (w.grownBy w' (some g)))
  case atStart => exact ⟨0, (m : Int) - 1, zs, (by first | rfl | (simp; done)), (by first | rfl | rw [hw0] | (simp [hw0]; done)), ⟨by omega⟩, ⟨by omega⟩, ⟨by omega⟩, ⟨Swp.start _ _ _⟩, HB0, ⟨grown_refl _ _⟩⟩
  case round =>
    clear hw0
    obtain ⟨a, b, ys, rfl, rfl, HE, HA, HK, HSW, HB, HG⟩ := hrel
    by_cases c1 : (a : Int) < b
    · obtain ⟨b, rfl⟩ : ∃ n : Nat, b = n := ⟨b.toNat, by omega⟩
      obtain ⟨k1, rfl⟩ : ∃ n, gk = n + 1 := ⟨gk - 1, by have := HK.out; have := HE.out; omega⟩
      have HE1 := HE.out
      have hl := HSW.out.1
      have HLE := Aside0.mk (show off + a < ys.length ∧ off + b < ys.length ∧ a < b ∧ b < m ∧ b = m - 1 - a by have := HE.out; have := HM.out; omega)
      obtain ⟨xa, hxa⟩ : ∃ x, ys.getD (off + a) 0 = x := ⟨_, rfl⟩
      obtain ⟨xb, hxb⟩ : ∃ x, ys.getD (off + b) 0 = x := ⟨_, rfl⟩
      have ca := HB.out.cell HLE.out.1
      have cb := HB.out.cell HLE.out.2.1
      have fa := HB.out.free (off + a)
      have fb := HB.out.free (off + b)
      rw [hxa] at ca
      rw [hxb] at cb
      have HXA := Aside0.mk hxa
      have HXB := Aside0.mk hxb
      have HB1 := Aside0.mk (HB.out.set (off + a) xb)
      have fb1 := HB1.out.free (off + b)
      have cb1 := HB1.out.cell (i := off + b) (by simp; exact HLE.out.2.1)
      have pa : (0 ≤ (a : Int)) = True := eq_true (by omega)
      have qa : ((a : Int) < (m : Int)) = True := eq_true (by omega)
      have pb : (0 ≤ (b : Int)) = True := eq_true (by omega)
      have qb : ((b : Int) < (m : Int)) = True := eq_true (by omega)
      have c1b : decide ((a : Int) < (b : Int)) = true := decide_eq_true c1
      have c1n : decide (a < b) = true := decide_eq_true (by omega)
      clear hl hxa hxb c1 HE1
      go_wp2
      go_region
      go_wp2
      have hwa : wrap64 ((a : Int) + 1) = ((a + 1 : Nat) : Int) := by have := HLE.out; have := HM.out; have := HS.out; unfold wrap64; omega
      have hwb : wrap64 ((b : Int) - 1) = (b : Int) - 1 := by have := HLE.out; have := HM.out; have := HS.out; unfold wrap64; omega
      go_roundg k1
      case measure => omega
      case rel =>
        have hb : b = m - 1 - a := HLE.out.2.2.2.2
        have hst := HSW.out.step HM.out (by have := HE.out; have := HLE.out; omega)
        rw [← hb, HXA.out, HXB.out] at hst
        exact ⟨a + 1, (b : Int) - 1, _, by rw [hwa], by rw [hwb], ⟨by have := HE.out; omega⟩, ⟨by have := HE.out; have := HLE.out; omega⟩, ⟨by have := HK.out; omega⟩, ⟨hst⟩, ⟨HB1.out.set (off + b) xa⟩, ⟨grown_drew (grown_trans HG.out (grown_trans (grown_set wr g (off + a) (.int .i64 xb)) (grown_set _ g (off + b) (.int .i64 xa))))⟩⟩
    · have c1b : decide ((a : Int) < b) = false := decide_eq_false c1
      have HF := Aside0.mk (HSW.out.done HM.out (by have := HE.out; omega) HA.out)
      clear c1
      go_wp2
      go_end0
      exact ⟨rfl, HF.out ▸ HB.out, HG.out⟩
theorem turnRun_ge {zs ls : List Int} {least : Int} : ∀ k i e, turnRun zs ls least k i = some e → i ≤ zs.length → i ≤ e ∧ e ≤ zs.length
  | 0, i, e, h, _ => by simp [turnRun] at h
  | k + 1, i, e, h, hi => by
    unfold turnRun at h
    split at h
    · rename_i h1
      split at h
      · split at h
        · split at h
          · have := turnRun_ge k (i + 1) e h h1
            exact ⟨by omega, this.2⟩
          · obtain rfl := Option.some.inj h; exact ⟨Nat.le_refl _, hi⟩
        · simp at h
      · simp at h
    · obtain rfl := Option.some.inj h; exact ⟨Nat.le_refl _, hi⟩
set_option maxHeartbeats 8000000 in
set_option maxRecDepth 100000 in
theorem turn_calls (k : Nat) {w : World} {g : Nat} {zs ls : List Int} {A1 : Option Addr} {c1 : Nat} (least : Int) (r : List Int) (h : Blk w g zs) (hc : Kd.C (Kd.int .i64) w A1 ls.length ls)
    (hA : ∀ a, A1 = some a → a.block ≠ g) (hs : zs.length ≤ 1000000) (hls : ls.length ≤ 1000000) (hr : turnL ls least k zs 0 = some r) :
    Calls Tryd.prog 35 #[.slice (some ⟨g, 0, none⟩) zs.length zs.length, .slice A1 ls.length c1, .int .i64 least] w fun e w' => e = .returned (.tuple #[]) ∧ (Blk w' g r ∧ r.length = zs.length) ∧ w.grownBy w' (some g) := by
  have HB0 := Aside0.mk h
  have HC0 := Aside0.mk hc
  have HNA := Aside0.mk hA
  have HS := Aside0.mk hs
  have HLS := Aside0.mk hls
  have HR := Aside0.mk hr
  clear h hc hA hs hls hr
  obtain ⟨n, hn⟩ : ∃ n, zs.length = n := ⟨_, rfl⟩
  rw [hn] at HS ⊢
  have HN := Aside0.mk hn
  clear hn
  go_enter Tryd.func35, Tryd.ntmps35
  go_wp2
  go_loopg [6] k (fun kq v6 w' => ∃ (i : Nat) (ys : List Int), v6 = .int .i64 (i : Int) ∧ Aside0 (turnL ls least kq ys i = some r) ∧ Aside0 (ys.length = n) ∧ Aside0 (Blk w' g ys) ∧ Aside0 (w.grownBy w' (some g)))
  case atStart => exact ⟨0, zs, (by first | rfl | (simp; done)), HR, HN, HB0, ⟨grown_refl _ _⟩⟩
  case round =>
    clear HR HB0 HN
    obtain ⟨i, ys, rfl, HT, HL, HB, HG⟩ := hrel
    obtain ⟨k1, rfl⟩ : ∃ m, gk = m + 1 := by
      cases gk with
      | zero => exact absurd HT.out (by simp [turnL])
      | succ m => exact ⟨m, rfl⟩
    have H := HT.out
    unfold turnL at H
    by_cases c1 : i < n
    · rw [HL.out, if_pos c1] at H
      obtain ⟨e, he, H⟩ := Option.bind_eq_some_iff.mp H
      have HT2 := Aside0.mk H
      have HE := Aside0.mk he
      have HIE := Aside0.mk (turnRun_ge _ _ _ he (by rw [HL.out]; omega))
      have HC1 := Aside0.mk c1
      have c1b : decide ((i : Int) < (n : Int)) = true := decide_eq_true (by omega)
      have c1n : decide (i < n) = true := decide_eq_true c1
      clear H he HT c1
      go_wp2
      clear c1b c1n
      rename World => WO
      go_loopg [7] k1 (fun kq v7 w' => ∃ (j : Nat), v7 = .int .i64 (j : Int) ∧ Aside0 (turnRun ys ls least kq j = some e) ∧ w' = WO)
      case atStart => exact ⟨i, (by first | rfl | (simp; done)), HE, rfl⟩
      case round =>
        clear HE
        obtain ⟨j, rfl, HE, rfl⟩ := hrel
        obtain ⟨k2, rfl⟩ : ∃ m, gk = m + 1 := by
          cases gk with
          | zero => exact absurd HE.out (by simp [turnRun])
          | succ m => exact ⟨m, rfl⟩
        have H := HE.out
        unfold turnRun at H
        by_cases d1 : j < n
        · rw [HL.out, if_pos d1] at H
          by_cases d2 : 0 ≤ rd ys (j : Int)
          · rw [if_pos d2] at H
            by_cases d3 : rd ys (j : Int) < (ls.length : Int)
            · rw [if_pos d3] at H
              obtain ⟨m, hm⟩ : ∃ m : Nat, rd ys (j : Int) = m := ⟨(rd ys (j : Int)).toNat, by omega⟩
              rw [hm] at H d2 d3
              have hx := HB.out.cell (i := j) (by rw [HL.out]; exact d1)
              rw [show ys.getD j 0 = (m : Int) by rw [← hm]; simp [rd]] at hx
              obtain ⟨ad, eA, hc⟩ := (C_cells (C_grown HC0.out HG.out HNA.out)).2 (by omega)
              subst eA
              have hl := hc m (by omega)
              rw [show ls.getD m 0 = rd ls (m : Int) by simp [rd]] at hl
              have p2 : (0 ≤ (j : Int)) = True := eq_true (by omega)
              have q2 : ((j : Int) < (n : Int)) = True := eq_true (by omega)
              have p3 : (0 ≤ (m : Int)) = True := eq_true (by omega)
              have q3 : ((m : Int) < (ls.length : Int)) = True := eq_true (by omega)
              have q2b : decide ((j : Int) < (n : Int)) = true := decide_eq_true (by omega)
              have q2bn : decide (j < n) = true := decide_eq_true (by omega)
              have D1 := Aside0.mk d1
              clear hc d3 d2 d1 hm
              by_cases d4 : rd ls (m : Int) ≥ least
              · rw [if_pos d4] at H
                have HE2 := Aside0.mk H
                have d4b : decide (least ≤ rd ls (m : Int)) = true := decide_eq_true d4
                have hwj : wrap64 ((j : Int) + 1) = ((j + 1 : Nat) : Int) := by have := HS.out; have := D1.out; unfold wrap64; omega
                clear H d4
                go_wp2
                go_roundg k2
                case measure => omega
                case rel => exact ⟨j + 1, by rw [hwj], HE2, rfl⟩
              · rw [if_neg d4] at H
                obtain rfl := Option.some.inj H
                have d4b : decide (least ≤ rd ls (m : Int)) = false := decide_eq_false d4
                clear H d4
                have HJN := Aside0.mk (show i ≤ j ∧ j ≤ n by have := HIE.out; have := HL.out; omega)
                have hmx : wrap64 ((max (i : Int) ((j : Int) - 1)) + 1) = ((max (i + 1) j : Nat) : Int) := by have := HJN.out; have := HS.out; have := HC1.out; unfold wrap64; omega
                have hj1 : wrap64 ((j : Int) - 1) = (j : Int) - 1 := by have := HJN.out; have := HS.out; unfold wrap64; omega
                have pc := part_calls HB.out i (j - i) (n - i) (by have := HJN.out; have := HL.out; omega) (by have := HS.out; have := HL.out; omega)
                rw [show i + (j - i) = j by have := HJN.out; omega] at pc
                have HPC := Aside0.mk pc
                have HLR := Aside0.mk (length_revAt ys i j (by have := HJN.out; omega) (by have := HJN.out; have := HL.out; omega))
                have n1 : (n = i) = False := eq_false (by have := HC1.out; omega)
                have n2 : (i ≤ j) = True := eq_true HJN.out.1
                have n3 : (j ≤ n) = True := eq_true HJN.out.2
                clear pc
                go_wp2_with (first | (go_at_call 39; (with_reducible refine HPC.out.mono ?_); rintro e w1 ⟨rfl, hb, hg⟩; have HB5 := Aside0.mk hb; have HG5 := Aside0.mk (grown_trans HG.out hg); clear hb hg))
                all_goals
                  go_roundg k1
                  case measure => omega
                  case rel =>
                    have hv : ∀ x : Int, x = ((max (i + 1) j : Nat) : Int) → Value.int .i64 (wrap64 x) = .int .i64 ((max (i + 1) j : Nat) : Int) := fun x e => by have h1 := HJN.out; have h2 := HS.out; have h3 := HC1.out; rw [e]; congr 1; unfold wrap64; omega
                    exact ⟨max (i + 1) j, revAt ys i j, hv _ (by omega), HT2, ⟨by rw [HLR.out, HL.out]⟩, HB5, HG5⟩
            · rw [if_neg d3] at H
              exact absurd H (by simp)
          · rw [if_neg d2] at H
            exact absurd H (by simp)
        · rw [HL.out, if_neg d1] at H
          obtain rfl := Option.some.inj H
          have q2b : decide ((j : Int) < (n : Int)) = false := decide_eq_false (by omega)
          have q2bn : decide (j < n) = false := decide_eq_false (by omega)
          clear H d1
          have HJN := Aside0.mk (show i ≤ j ∧ j ≤ n by have := HIE.out; have := HL.out; omega)
          have hmx : wrap64 ((max (i : Int) ((j : Int) - 1)) + 1) = ((max (i + 1) j : Nat) : Int) := by have := HJN.out; have := HS.out; have := HC1.out; unfold wrap64; omega
          have hj1 : wrap64 ((j : Int) - 1) = (j : Int) - 1 := by have := HJN.out; have := HS.out; unfold wrap64; omega
          have pc := part_calls HB.out i (j - i) (n - i) (by have := HJN.out; have := HL.out; omega) (by have := HS.out; have := HL.out; omega)
          rw [show i + (j - i) = j by have := HJN.out; omega] at pc
          have HPC := Aside0.mk pc
          have HLR := Aside0.mk (length_revAt ys i j (by have := HJN.out; omega) (by have := HJN.out; have := HL.out; omega))
          have n1 : (n = i) = False := eq_false (by have := HC1.out; omega)
          have n2 : (i ≤ j) = True := eq_true HJN.out.1
          have n3 : (j ≤ n) = True := eq_true HJN.out.2
          clear pc
          go_wp2_with (first | (go_at_call 39; (with_reducible refine HPC.out.mono ?_); rintro e w1 ⟨rfl, hb, hg⟩; have HB5 := Aside0.mk hb; have HG5 := Aside0.mk (grown_trans HG.out hg); clear hb hg))
          all_goals
            go_roundg k1
            case measure => omega
            case rel =>
              have hv : ∀ x : Int, x = ((max (i + 1) j : Nat) : Int) → Value.int .i64 (wrap64 x) = .int .i64 ((max (i + 1) j : Nat) : Int) := fun x e => by have h1 := HJN.out; have h2 := HS.out; have h3 := HC1.out; rw [e]; congr 1; unfold wrap64; omega
              exact ⟨max (i + 1) j, revAt ys i j, hv _ (by omega), HT2, ⟨by rw [HLR.out, HL.out]⟩, HB5, HG5⟩
    · rw [HL.out, if_neg c1] at H
      obtain rfl := Option.some.inj H
      have c1b : decide ((i : Int) < (n : Int)) = false := decide_eq_false (by omega)
      have c1n : decide (i < n) = false := decide_eq_false c1
      clear H c1 HT
      go_wp2
      go_end0
      exact ⟨rfl, ⟨HB.out, HL.out⟩, HG.out⟩
theorem grown_alloc (w : World) (o : Obj) (g : Nat) : w.grownBy (w.alloc o) (some g) :=
  ⟨rfl, rfl, rfl, by show w.heap.size ≤ (w.heap.push o).size; rw [Array.size_push]; omega, fun k hk _ => by show (w.heap.push o)[k]? = w.heap[k]?; rw [Array.getElem?_push, if_neg (by omega)]⟩
theorem turnL_nil {least : Int} {k : Nat} {r : List Int} (h : turnL [] least k [] 0 = some r) : r = [] := by
  cases k with
  | zero => simp [turnL] at h
  | succ m => simpa [turnL] using h.symm
theorem iotaL_of {ys : List Int} {n : Nat} (hl : ys.length = n) (h : ∀ i, i < n → ys.getD i 0 = (i : Int)) : ys = iotaL n := by
  apply List.ext_getElem
  · simp [iotaL, hl]
  · intro i h1 h2
    have := h i (by omega)
    simpa [iotaL, List.getD, List.getElem?_eq_getElem h1] using this
theorem C_of_blk {w : World} {g : Nat} {xs : List Int} (h : Blk w g xs) (hs : xs.length ≤ 1000000) : Kd.C (Kd.int .i64) w (some ⟨g, 0, none⟩) xs.length xs :=
  Kd.C_of_reads (d := (0 : Int)) (h1 := fun _ => rfl) ⟨rfl, by omega, fun _ => ⟨_, rfl, fun j hj => by
    have := h.cell hj
    have e : (Addr.add ⟨g, 0, none⟩ j) = ⟨g, j, none⟩ := by unfold Addr.add; by_cases h0 : j = 0 <;> simp [h0]
    rw [e]; exact this⟩⟩
theorem eql29_nil (W : World) : (binOp .eql 29 (.slice none 0 0) (.slice none 0 0)).run Tryd.prog W = .ok (.bool true) W := by
  have h : ∀ d : Nat, (Op.equalIn (d + 1) 29 (.slice none 0 0) (.slice none 0 0)).run Tryd.prog W = .ok true W := fun d => by simp [Op.equalIn, run_underlying Tryd.underlying29]
  simp only [binOp]
  simp [Op.equal, Op.maxDepth, h 9999]
theorem eql29_some (W : World) (a : Addr) (n c : Nat) : (binOp .eql 29 (.slice (some a) n c) (.slice none 0 0)).run Tryd.prog W = .ok (.bool false) W := by
  have h : ∀ d : Nat, (Op.equalIn (d + 1) 29 (.slice (some a) n c) (.slice none 0 0)).run Tryd.prog W = .ok false W := fun d => by simp [Op.equalIn, run_underlying Tryd.underlying29]
  simp only [binOp]
  simp [Op.equal, Op.maxDepth, h 9999]
set_option maxHeartbeats 8000000 in
set_option maxRecDepth 100000 in
theorem bidi_Order.calls (k : Nat) (a0 : Int) (a1 : ByteArray) (r : List Int) (w : World) (hG : Glob w) (h : bidi_Order.f k a0 a1 = some r) :
    Calls Tryd.prog 20 #[.int .i64 a0, .string a1] w fun e w' => ∃ v0_ : Value, e = .returned (v0_) ∧ Kd.R (Kd.int .i64) 3 w' w.heap.size (fun _ => True) v0_ r ∧ Below w.heap.size w w' := by
  unfold bidi_Order.f at h
  obtain ⟨ls, hls, h⟩ := Option.bind_eq_some_iff.mp h
  by_cases h1 : ls.length ≤ 1000000
  · rw [if_pos h1] at h
    obtain ⟨o, ho, hr⟩ := Option.bind_eq_some_iff.mp h
    have HLS := Aside0.mk hls
    have HS := Aside0.mk h1
    have HO := Aside0.mk ho
    have HR := Aside0.mk hr
    have HG := Aside0.mk hG
    clear h hls h1 ho hr hG
    obtain ⟨n, hn⟩ : ∃ n, ls.length = n := ⟨_, rfl⟩
    have HN := Aside0.mk hn
    rw [hn] at HS
    have hmk := fun W => run_make29 W n HS.out
    have hst : ∀ W : World, Blk (W.alloc (.cells ((List.replicate n (0 : Int)).map (Value.int .i64)).toArray 3)) W.heap.size (List.replicate n 0) := fun W => blk_new W _
    generalize hZ : ((List.replicate n (0 : Int)).map (Value.int .i64)).toArray = ZA at hmk hst
    have HST0 := Aside0.mk hst
    clear hn hZ hst
    have q1 := eql29_nil
    have q2 := eql29_some
    go_enter Tryd.func20, Tryd.ntmps20
    go_wp2_with (first | (go_at_call 19; (with_reducible refine (levels_made k a0 a1 ls _ HG.out HLS.out).mono ?_); rintro e w1 ⟨v, rfl, hm⟩; have HM := Aside0.mk hm; have hv := hm.val; rw [HN.out] at hv; clear hm; rcases hv with ⟨rfl, rfl⟩ | ⟨g, rfl, hge, hrow, hs⟩))
    · go_wp2
      go_ret
      obtain rfl := turnL_nil HO.out
      obtain rfl := turnL_nil HR.out
      exact ⟨_, rfl, Kd.R_nil _ _ _ _ _, HM.out.bel⟩
    · have HROW := Aside0.mk (show Blk w1 g ls from hrow)
      have HGL := Aside0.mk (Array.getElem?_eq_some_iff.1 hrow).1
      have HW := Aside0.mk HM.out.bel.size
      have HB1 := Aside0.mk HM.out.bel
      have HST := Aside0.mk (HST0.out w1)
      clear hge hrow hs HM hmk HST0 q1 q2
      go_loopg [18] (n + 1) (fun kq v18 w' => ∃ (j : Nat) (ys : List Int), v18 = .int .i64 (j : Int) ∧ Aside0 (j ≤ n) ∧ Aside0 (n < j + kq) ∧ Aside0 (ys.length = n) ∧ Aside0 (∀ i, i < j → ys.getD i 0 = (i : Int)) ∧ Aside0 (Blk w' w1.heap.size ys) ∧ Aside0 (w1.grownBy w' (some w1.heap.size)))
      case atStart => exact ⟨0, _, (by first | rfl | (simp; done)), ⟨Nat.zero_le _⟩, ⟨by omega⟩, ⟨by rw [List.length_replicate]⟩, ⟨fun i hi => absurd hi (Nat.not_lt_zero _)⟩, HST, ⟨grown_alloc _ _ _⟩⟩
      case round =>
        clear HST
        obtain ⟨j, ys, rfl, HJ, HK, HL, HY, HB, HGR⟩ := hrel
        by_cases d1 : j < n
        · obtain ⟨k2, rfl⟩ : ∃ m, gk = m + 1 := ⟨gk - 1, by have := HK.out; omega⟩
          have hx := HB.out.cell (i := j) (by rw [HL.out]; exact d1)
          have hf := HB.out.free j
          have p2 : (0 ≤ (j : Int)) = True := eq_true (by omega)
          have q2 : ((j : Int) < (n : Int)) = True := eq_true (by omega)
          have q2b : decide ((j : Int) < (n : Int)) = true := decide_eq_true (by omega)
          have q2bn : decide (j < n) = true := decide_eq_true (by omega)
          have D1 := Aside0.mk d1
          have hwj : wrap64 ((j : Int) + 1) = ((j + 1 : Nat) : Int) := by have := HS.out; unfold wrap64; omega
          clear d1
          go_wp2
          go_roundg k2
          case measure => omega
          case rel =>
            refine ⟨j + 1, ys.set j (j : Int), by rw [hwj], ⟨D1.out⟩, ⟨by have := HK.out; omega⟩, ⟨by simp [HL.out]⟩, ⟨fun i hi => ?_⟩, ⟨HB.out.set j _⟩, ⟨grown_trans HGR.out (grown_set _ _ _ _)⟩⟩
            have hl := HL.out
            have d1 := D1.out
            rw [getD_set _ _ _ _ (by omega)]
            by_cases e : j = i
            · rw [if_pos e, e]
            · rw [if_neg e]; exact HY.out i (by omega)
        · have q2b : decide ((j : Int) < (n : Int)) = false := decide_eq_false (by omega)
          have q2bn : decide (j < n) = false := decide_eq_false (by omega)
          obtain rfl : ys = iotaL n := iotaL_of HL.out (fun i hi => HY.out i (by omega))
          have hc1 := C_of_blk HROW.out (by rw [HN.out]; exact HS.out)
          have hne : ∀ a, (some (⟨g, 0, none⟩ : Addr)) = some a → a.block ≠ w1.heap.size := fun a e => by injection e with e; subst e; have := HGL.out; simp only; omega
          have h1 := turn_calls (c1 := n) k 2 o HB.out (C_grown hc1 HGR.out hne) hne (by rw [HL.out]; exact HS.out) (by rw [HN.out]; exact HS.out) (by have := HO.out; rw [HN.out] at this; exact this)
          rw [HL.out, HN.out] at h1
          have H1 := Aside0.mk h1
          have HC := Aside0.mk hc1
          have HNE := Aside0.mk hne
          clear d1 hc1 hne h1
          go_wp2_with (first | (go_at_call 35; first | ((with_reducible refine H1.out.mono ?_); rintro e w2 ⟨rfl, ⟨hb, hl⟩, hg⟩; have h2 := turn_calls (c1 := n) k 1 r hb (C_grown HC.out (grown_trans HGR.out hg) HNE.out) HNE.out (by rw [hl]; exact HS.out) (by rw [HN.out]; exact HS.out) HR.out; rw [hl, HN.out] at h2; have H2 := Aside0.mk h2; have HG2 := Aside0.mk (grown_trans HGR.out hg); have HL2 := Aside0.mk hl; clear h2 hb hl hg H1) | ((with_reducible refine H2.out.mono ?_); rintro e w3 ⟨rfl, ⟨hb, hl⟩, hg⟩; have HB3 := Aside0.mk hb; have HL3 := Aside0.mk hl; have HG3 := Aside0.mk (grown_trans HG2.out hg); clear hb hl hg)))
          go_ret
          refine ⟨_, rfl, ?_, pw_below_grown HB1.out (some w1.heap.size) HB1.out.size HG3.out (fun k hk => by injection hk with hk; have := HW.out; omega)⟩
          have := R_of_blk (base := w.heap.size) HW.out HB3.out (by rw [HL3.out]; exact HS.out)
          rw [HL3.out] at this
          exact this
  · rw [if_neg h1] at h
    exact absurd h (by simp)

end Go.Proofs.YtfecolaljnijbaaDoor.C
