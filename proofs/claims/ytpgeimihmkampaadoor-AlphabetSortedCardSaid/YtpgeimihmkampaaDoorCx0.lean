-- WRITTEN BY mkprint.py, a program of this session, over the kit's print of the given program. Not trusted: Lean checks it.
import Derived.Test.YtpgeimihmkampaaDoorProg
import Derived.Below
import Derived.Deep.Draws
import Derived.Deep.AppendLies
import Derived.Maps.AppendAt
import Derived.OwnWalk
import Derived.Laws.BytesArg
import Derived.Laws.MakeOwn
import Derived.Laws.OwnMore
import Derived.Deep.OwnRows
import Derived.Tactics
import Derived.Lib.ConvBytes
import Derived.Laws.Slices
import Derived.WalkKit
import Derived.KernelRfl
import Derived.RowKit3
import Derived.Deep.LoopGhost
import Derived.Deep.QuietTactic
import Derived.BigQuiet
import Derived.WideLaws
import Derived.Deep.DeepCutAuto
import Derived.Deep.CutBlock
import Derived.Deep.RegionHeld3
import Derived.Laws.Rows
import Derived.Lib.AppendStr
import Derived.ArgAppend
import Derived.Laws.IdiomCopy
import Derived.OrdersHeld
import Derived.Laws.BitsLemmas
import Derived.RowKit
import Derived.Laws.IdiomStrings
import Derived.Laws.Cover4
import Derived.Laws.Runes
import Derived.Lib.OthersKept
import Derived.Lib.RuneCount
import Derived.BigRegion
import Derived.Maps.OwnOps
import Derived.Maps.OwnSet
import Derived.Maps.Views
import Derived.Shelf.Unicode.ValidAny
import Derived.Test.YtpgeimihmkampaaDoorWWords
import Derived.Test.YtpgeimihmkampaaDoorWLast
import Derived.Test.YtpgeimihmkampaaDoorWTab
import Derived.Test.YtpgeimihmkampaaDoorWFour
import Derived.Test.YtpgeimihmkampaaDoorWQPut
import Derived.Test.YtpgeimihmkampaaDoorWApart
import Derived.Test.YtpgeimihmkampaaDoorWArr
import Derived.Test.YtpgeimihmkampaaDoorWZeros
import Derived.Test.YtpgeimihmkampaaDoorWFoot
import Derived.Test.YtpgeimihmkampaaDoorWKept
import Derived.Test.YtpgeimihmkampaaDoorWShare
import Derived.Test.YtpgeimihmkampaaDoorWN
import Derived.Test.YtpgeimihmkampaaDoorWFootNe
import Derived.Test.YtpgeimihmkampaaDoorWAt
import Derived.Test.YtpgeimihmkampaaDoorWEqStruct
import Derived.Test.YtpgeimihmkampaaDoorWRepsOne
import Derived.Test.YtpgeimihmkampaaDoorWInv
import Derived.Test.YtpgeimihmkampaaDoorWInvWords
import Derived.Test.YtpgeimihmkampaaDoorWGuard
import Derived.Test.YtpgeimihmkampaaDoorWNEv
import Derived.Test.YtpgeimihmkampaaDoorWMore
namespace Go.Proofs.YtpgeimihmkampaaDoor.C
open Go.RowKit Go.Proofs.YtpgeimihmkampaaDoorW.PrintWords Go.Proofs.YtpgeimihmkampaaDoorW.PrintLast Go.Proofs.YtpgeimihmkampaaDoorW.PrintMore
attribute [local go_sem] max2_int min2_int max_two min_two max_three min_three max_four min_four   -- for this text's walks alone
set_option linter.unusedVariables false
set_option linter.unusedSimpArgs false



def errW : Option Int → Value
  | none => .nilIface
  | some c => .iface 0 (.int .i64 c)
theorem errW_none : errW none = .nilIface := rfl
theorem errW_some (c : Int) : errW (some c) = .iface 0 (.int .i64 c) := rfl

theorem info9 : (Tryd.prog.info? 9).map (fun i => (i.zero, i.size, i.bytes)) = some (some (.string ⟨#[]⟩), 1, 16) := by kernel_rfl
theorem info21 : (Tryd.prog.info? 21).map (fun i => (i.zero, i.size, i.bytes)) = some (some (.int .i32 0), 1, 4) := by kernel_rfl
theorem info42 : (Tryd.prog.info? 42).map (fun i => (i.zero, i.size, i.bytes)) = some (some (.agg #[(.int .i32 0), (.int .u32 0)]), 2, 8) := by kernel_rfl
-- the values' own types
/-! #### struct type 42 -/
structure S42 where
  f0 : Int
  f1 : Int
def z42 : S42 := ⟨(0 : Int), (0 : Int)⟩
def k42 : Kd S42 := Kd.iso (Kd.pair (Kd.int .i32) (Kd.int .u32)) (fun x : S42 => (x.f0, x.f1))
theorem k42_open {w : World} {x : S42} {cs : List Value} (h : k42.K w x cs) : cs = [.int .i32 x.f0, .int .u32 x.f1] := by
  obtain ⟨_, _, rfl, rfl, rfl⟩ := h
  exact rfl
theorem k42_openM {w : World} {base : Nat} {ok : Nat → Prop} {x : S42} {cs : List Value} (h : k42.M w base ok x cs) : cs = [.int .i32 x.f0, .int .u32 x.f1] := by
  obtain ⟨_, _, rfl, rfl, rfl⟩ := h
  exact rfl
theorem k42_mk (w : World) (x : S42)  : k42.K w x [.int .i32 x.f0, .int .u32 x.f1] := ⟨[.int .i32 x.f0], [.int .u32 x.f1], rfl, rfl, rfl⟩
theorem k42_mkM (w : World) (base : Nat) (ok : Nat → Prop) (x : S42)  : k42.M w base ok x [.int .i32 x.f0, .int .u32 x.f1] := ⟨[.int .i32 x.f0], [.int .u32 x.f1], rfl, rfl, rfl⟩
def rd_T42 (xs : List S42) (i : Int) : S42 := xs.getD i.toNat z42
theorem at_T42 {w : World} {A : Option Addr} {n : Nat} {xs : List S42} (h : Kd.C k42 w A n xs) (i : Int) (h0 : 0 ≤ i) (h1 : i < n) : ∃ ad , A = some ad ∧ w.cell? (ad.add (i.toNat * 2)) = some (.int .i32 (rd_T42 xs i).f0) ∧ w.cell? ⟨(ad.add (i.toNat * 2)).block, (ad.add (i.toNat * 2)).off + 1, none⟩ = some (.int .u32 (rd_T42 xs i).f1) := by
  obtain ⟨ad, c, e, _, hK, hc0⟩ := Kd.C_get h z42 i h0 h1
  have hc : ∀ j u, c[j]? = some u → w.cell? (ad.add (i.toNat * 2 + j)) = some u := hc0
  obtain rfl := k42_open hK
  exact ⟨ad, e, hc 0 _ rfl, by rw [← add_field _ _ 1 (by omega)]; exact hc 1 _ rfl⟩

def rd_L3 (xs : List (List S42)) (i : Int) : (List S42) := xs.getD i.toNat ([] : List S42)
theorem at_L3 {w : World} {A : Option Addr} {n : Nat} {xs : List (List S42)} (h : Kd.C (Kd.slice 42 k42) w A n xs) (i : Int) (h0 : 0 ≤ i) (h1 : i < n) : ∃ ad A0 c0, A = some ad ∧ w.cell? (ad.add i.toNat) = some (.slice A0 (rd_L3 xs i).length c0) ∧ (rd_L3 xs i).length ≤ c0 ∧ k42.C w A0 (rd_L3 xs i).length (rd_L3 xs i) := by
  obtain ⟨ad, c, e, _, hK, hc0⟩ := Kd.C_get h ([] : List S42) i h0 h1
  have hc : ∀ j u, c[j]? = some u → w.cell? (ad.add (i.toNat * 1 + j)) = some u := hc0
  obtain ⟨A0, c0, rfl, l0, g0⟩ := hK
  exact ⟨ad, A0, c0, e, by have hq := hc 0 _ rfl; rwa [Nat.mul_one, Nat.add_zero] at hq, l0, g0⟩

def rd_L6 (xs : List (List ByteArray)) (i : Int) : (List ByteArray) := xs.getD i.toNat ([] : List ByteArray)
theorem at_L6 {w : World} {A : Option Addr} {n : Nat} {xs : List (List ByteArray)} (h : Kd.C (Kd.slice 9 Kd.string) w A n xs) (i : Int) (h0 : 0 ≤ i) (h1 : i < n) : ∃ ad A0 c0, A = some ad ∧ w.cell? (ad.add i.toNat) = some (.slice A0 (rd_L6 xs i).length c0) ∧ (rd_L6 xs i).length ≤ c0 ∧ Kd.string.C w A0 (rd_L6 xs i).length (rd_L6 xs i) := by
  obtain ⟨ad, c, e, _, hK, hc0⟩ := Kd.C_get h ([] : List ByteArray) i h0 h1
  have hc : ∀ j u, c[j]? = some u → w.cell? (ad.add (i.toNat * 1 + j)) = some u := hc0
  obtain ⟨A0, c0, rfl, l0, g0⟩ := hK
  exact ⟨ad, A0, c0, e, by have hq := hc 0 _ rfl; rwa [Nat.mul_one, Nat.add_zero] at hq, l0, g0⟩


/-- A store leaves a cell where it is: so that a read behind several stores is told without searching deep. -/
@[go_sem] theorem cell_set_isSome (w : World) (a b : Addr) (v : Value) : ((w.setCell a v).cell? b).isSome = (w.cell? b).isSome := by
  cases h : w.cell? b with
  | some u =>
    obtain ⟨v', e⟩ := cell?_setCell_some (p := a) (x := v) h
    rw [e]; rfl
  | none =>
    by_cases e : a = b
    · subst e
      cases h2 : (w.setCell a v).cell? a with
      | none => rfl
      | some u =>
        exfalso
        revert h h2
        simp only [World.setCell, World.cell?, Array.getElem?_modify, if_true]
        cases w.heap[a.block]? with
        | none => simp
        | some x =>
          cases x with
          | cells cs t fr =>
            simp only [Option.map_some]
            cases hs : a.spot.isSome
            · simp only [Bool.false_eq_true, if_false, Array.setIfInBounds]
              split
              · rename_i hlt
                intro h1
                have := Array.getElem?_eq_none_iff.1 h1
                omega
              · intro h1 h2
                rw [h1] at h2
                cases h2
            · simp
          | map es c => simp
          | _ => simp
    · rw [World.cell?_setCell_other w a b v e, h]
/-! #### runes and strings: what the print lacks ('[]rune(s)', 'string(runes)', 'string(r)') -/
/-- The runes of a string from a place on. -/
def rnsFrom (s : ByteArray) : Nat → Nat → List Int
  | 0, _ => []
  | k + 1, pos => if pos < s.size then ((Utf8.decode s pos).1 : Int) :: rnsFrom s k (pos + (Utf8.decode s pos).2) else []
def rns (s : ByteArray) : List Int := rnsFrom s s.size 0
theorem rns_conv (s : ByteArray) : ∀ (k pos : Nat) (acc : Array Value), Conv.runesFrom s k pos acc = acc ++ ((rnsFrom s k pos).map (Value.int .i32)).toArray
  | 0, _, acc => by simp [Conv.runesFrom, rnsFrom]
  | k + 1, pos, acc => by
    simp only [Conv.runesFrom, rnsFrom]
    by_cases h : pos < s.size
    · rw [if_pos h, if_pos h, rns_conv s k]
      simp
    · rw [if_neg h, if_neg h]
      simp
theorem rnsFrom_len (s : ByteArray) : ∀ (k pos : Nat), (rnsFrom s k pos).length ≤ k
  | 0, _ => by simp [rnsFrom]
  | k + 1, pos => by
    unfold rnsFrom
    split
    · have := rnsFrom_len s k (pos + (Utf8.decode s pos).2)
      simp
      omega
    · simp
theorem rns_len (s : ByteArray) : (rns s).length ≤ s.size := rnsFrom_len s _ _
theorem run_rns {P : Program} (w : World) (src dst e : TypeId) (s : ByteArray) (hs : P.underlying src = some .string) (hd : P.underlying dst = some (.slice e)) (he : P.underlying e = some (.int .i32)) (hl : s.size ≤ 70368744177664) :
    ∃ cap, (rns s).length ≤ cap ∧ cap ≤ maxLen ∧ (convert src dst (.string s)).run P w = .ok (.slice (some ⟨w.heap.size, 0, none⟩) (rns s).length cap) (w.drew.alloc (.cells (((rns s).map (Value.int .i32)).toArray ++ Array.replicate (cap - (rns s).length) (.int .i32 0)) e)) := by
  have hc := rns_conv s s.size 0 #[]
  have hr : rnsFrom s s.size 0 = rns s := rfl
  rw [hr] at hc
  have hsz : (Conv.runesFrom s s.size 0 #[]).size = (rns s).length := by rw [hc]; simp
  have hl2 := rns_len s
  have h := run_runes_of_string (P := P) w src dst e s hs hd he (by rw [hsz]; omega)
  refine ⟨grownCap w (rns s).length 0 e, grownCap_ge _ _ _ _, grownCap_le_maxLen _ _ _ _ (by unfold maxLen; omega), ?_⟩
  rw [hsz, hc] at h
  rw [h]
  simp
section
variable {P : Program} {ops : Array Oper} {rest : List Oper} {o : Oper} {a : Act} {Q : Exit → Act → World → Prop} {Kc : Act → World → Prop}
theorem runes_own (w : World) (base e cap : Nat) (xs : List Int) (hbase : base ≤ w.heap.size) (h1 : xs.length ≤ cap) (h2 : cap ≤ maxLen) :
    (w.drew.alloc (.cells ((xs.map (Value.int .i32)).toArray ++ Array.replicate (cap - xs.length) (.int .i32 0)) e)).ownsRow base e 1 (.slice (some ⟨w.heap.size, 0, none⟩) xs.length cap) xs.length (xs.map (Value.int .i32)) := by
  refine ⟨by simp, .inr ⟨w.heap.size, cap, (xs.map (Value.int .i32)).toArray ++ Array.replicate (cap - xs.length) (.int .i32 0), rfl, hbase, ?_, h1, h2, ?_, ?_⟩⟩
  · have : (w.drew.alloc (.cells ((xs.map (Value.int .i32)).toArray ++ Array.replicate (cap - xs.length) (.int .i32 0)) e)).heap[w.drew.heap.size]? = some (.cells ((xs.map (Value.int .i32)).toArray ++ Array.replicate (cap - xs.length) (.int .i32 0)) e (0, 0)) := by
      show (w.heap.push _)[w.heap.size]? = _
      simp
    exact this
  · simp; omega
  · simp
theorem Kd.R_runes {w0 W : World} (base e : Nat) (hgd : o.guard = none) {N : Tmp} (_hd : o.dst = some N) (src dst : TypeId) (x : Operand) (ho : o.op = .convert src dst x) (s : ByteArray) (hx : a.eval x = .string s)
    (hs : P.underlying src = some .string) (hdt : P.underlying dst = some (.slice e)) (he : P.underlying e = some (.int .i32)) (hl : s.size ≤ 70368744177664) {ok okp : Nat → Prop} (hok : ∀ k, okp k → ok k) (hfresh : ok W.heap.size) (HB : Below base w0 W) (hbase : base ≤ W.heap.size)
    (h : ∀ v1 w1, (Kd.int .i32).R e w1 base ok v1 (rns s) → Below base w0 w1 → W.grownBy w1 none → (∃ b, v1.ownBlock = some b ∧ W.heap.size ≤ b) → wpList P ops Q rest (a.put o.dst v1) w1) : wpList P ops Q (o :: rest) a W := by
  obtain ⟨cap, h1, h2, h3⟩ := run_rns (P := P) W src dst e s hs hdt he hl
  have hb2 : Below base w0 W.drew := HB.drew
  have hg : W.grownBy W.drew none := ⟨rfl, rfl, rfl, Nat.le_refl _, fun _ _ _ => rfl⟩
  have hg2 := World.grownBy_alloc W.drew (.cells (((rns s).map (Value.int .i32)).toArray ++ Array.replicate (cap - (rns s).length) (.int .i32 0)) e) none
  refine Kd.event_run hgd (by simp [execOp, ho, hx, h3]) (h _ _ ⟨fun k hk => ?_, _, runes_own W base e cap (rns s) hbase h1 h2, ?_⟩ (hb2.alloc hbase _) ⟨hg2.os.trans hg.os, hg2.tape.trans hg.tape, hg2.output.trans hg.output, Nat.le_trans hg.size hg2.size, fun k hk hr => (hg2.block k (Nat.lt_of_lt_of_le hk hg.size) hr).trans (hg.block k hk hr)⟩ ⟨W.heap.size, by simp [Value.ownBlock], Nat.le_refl _⟩)
  · have : W.heap.size = k := by simpa [Value.ownBlock] using hk
    subst this
    exact hfresh
  · refine ⟨by simp [Kd.int, Kd.scalar], fun j p hj => ?_⟩
    show ((((rns s).map (Value.int .i32)).drop (j * 1)).take 1) = [Value.int .i32 p]
    have hjl := (List.getElem?_eq_some_iff.1 hj).1
    rw [Nat.mul_one, List.drop_eq_getElem_cons (by simpa using hjl)]
    simp only [List.take_succ_cons, List.take_zero, List.getElem_map]
    rw [List.getElem?_eq_getElem hjl] at hj
    rw [Option.some.inj hj]
theorem Kd.R_runes_step {w0 W : World} (base e : Nat) (hw : Region.wanted o (yielded ops a.tmps) = true) {N : Tmp} (_hd : o.dst = some N) (src dst : TypeId) (x : Operand) (ho : o.op = .convert src dst x) (s : ByteArray) (hx : a.eval x = .string s)
    (hs : P.underlying src = some .string) (hdt : P.underlying dst = some (.slice e)) (he : P.underlying e = some (.int .i32)) (hl : s.size ≤ 70368744177664) {ok okp : Nat → Prop} (hok : ∀ k, okp k → ok k) (hfresh : ok W.heap.size) (HB : Below base w0 W) (hbase : base ≤ W.heap.size)
    (h : ∀ v1 w1, (Kd.int .i32).R e w1 base ok v1 (rns s) → Below base w0 w1 → W.grownBy w1 none → (∃ b, v1.ownBlock = some b ∧ W.heap.size ≤ b) → Kc (a.put o.dst v1) w1) :
    if Region.wanted o (yielded ops a.tmps) = true then Oper.wp P o a W Kc Q else Kc (a.put o.dst undef) W := by
  obtain ⟨cap, h1, h2, h3⟩ := run_rns (P := P) W src dst e s hs hdt he hl
  have hb2 : Below base w0 W.drew := HB.drew
  have hg : W.grownBy W.drew none := ⟨rfl, rfl, rfl, Nat.le_refl _, fun _ _ _ => rfl⟩
  have hg2 := World.grownBy_alloc W.drew (.cells (((rns s).map (Value.int .i32)).toArray ++ Array.replicate (cap - (rns s).length) (.int .i32 0)) e) none
  refine event_step hw (by simp [execOp, ho, hx, h3]) (h _ _ ⟨fun k hk => ?_, _, runes_own W base e cap (rns s) hbase h1 h2, ?_⟩ (hb2.alloc hbase _) ⟨hg2.os.trans hg.os, hg2.tape.trans hg.tape, hg2.output.trans hg.output, Nat.le_trans hg.size hg2.size, fun k hk hr => (hg2.block k (Nat.lt_of_lt_of_le hk hg.size) hr).trans (hg.block k hk hr)⟩ ⟨W.heap.size, by simp [Value.ownBlock], Nat.le_refl _⟩)
  · have : W.heap.size = k := by simpa [Value.ownBlock] using hk
    subst this
    exact hfresh
  · refine ⟨by simp [Kd.int, Kd.scalar], fun j p hj => ?_⟩
    show ((((rns s).map (Value.int .i32)).drop (j * 1)).take 1) = [Value.int .i32 p]
    have hjl := (List.getElem?_eq_some_iff.1 hj).1
    rw [Nat.mul_one, List.drop_eq_getElem_cons (by simpa using hjl)]
    simp only [List.take_succ_cons, List.take_zero, List.getElem_map]
    rw [List.getElem?_eq_getElem hjl] at hj
    rw [Option.some.inj hj]
end
/-- 'string(runes)'. -/
def strOfRunes (xs : List Int) : ByteArray := xs.foldl (fun r n => r ++ Utf8.encode n) .empty
theorem runes_string_of_cells {P : Program} {w : World} {src dst e : TypeId} (hs : P.underlying src = some (.slice e)) (he : P.underlying e = some (.int .i32)) (hd : P.underlying dst = some .string) (ad : Addr) (xs : List Int) (c : Nat)
    (hc : ∀ j, j < xs.length → w.cell? (ad.add j) = some (.int .i32 (xs.getD j 0))) : (convert src dst (.slice (some ad) xs.length c)).run P w = .ok (.string (strOfRunes xs)) w := by
  have h := run_convert_runes (P := P) w src dst e ad xs.length c xs (Nat.le_refl _) hs he hd hc
  rw [List.take_length] at h
  exact h
theorem Kd.C_rstring {P : Program} {w : World} {src dst e : TypeId} {A : Option Addr} {n c : Nat} {xs : List Int} (hs : P.underlying src = some (.slice e)) (he : P.underlying e = some (.int .i32)) (hd : P.underlying dst = some .string)
    (h : (Kd.int .i32).C w A n xs) : (convert src dst (.slice A n c)).run P w = .ok (.string (strOfRunes xs)) w := by
  obtain ⟨rfl, h1, h2⟩ := Kd.reads_of_C (enc := Value.int .i32) (d := (0 : Int)) (h1 := fun _ => rfl) h
  cases hxs : xs with
  | nil =>
    cases A with
    | none => exact run_convert_runes_nil w src dst e 0 c hs he hd
    | some ad => exact runes_string_of_cells hs he hd ad [] c (fun j hj => absurd hj (Nat.not_lt_zero _))
  | cons y ys =>
    obtain ⟨ad, e1, hc⟩ := h2 (by rw [hxs]; simp)
    subst e1
    rw [← hxs]
    exact runes_string_of_cells hs he hd ad xs c hc
theorem own_rstring {P : Program} {w : World} {base n : Nat} {e' src dst e : TypeId} {v : Value} {xs : List Int} (hs : P.underlying src = some (.slice e)) (he : P.underlying e = some (.int .i32)) (hd : P.underlying dst = some .string)
    (h : w.ownsRow base e' 1 v n (encs (Value.int .i32) xs)) : (convert src dst v).run P w = .ok (.string (strOfRunes xs)) w := by
  have hl : xs.length = n := by have := h.1; simp [encs] at this; exact this
  rcases h.2 with ⟨rfl, rfl⟩ | ⟨g, cap, cur, rfl, _⟩
  · obtain rfl : xs = [] := List.eq_nil_of_length_eq_zero hl
    exact run_convert_runes_nil w src dst e 0 0 hs he hd
  · subst hl
    exact runes_string_of_cells hs he hd ⟨g, 0, none⟩ xs cap (fun j hj => h.cells (g := g) rfl j _ (encs_get xs j hj))
theorem Kd.S_runes {P : Program} {ops : Array Oper} {rest : List Oper} {o : Oper} {a : Act} {Q : Exit → Act → World → Prop} {w0 W : World} (base e : Nat) (hgd : o.guard = none) {N : Tmp} (_hd : o.dst = some N) (src dst : TypeId) (x : Operand) (ho : o.op = .convert src dst x) (s : ByteArray) (hx : a.eval x = .string s)
    (hs : P.underlying src = some .string) (hdt : P.underlying dst = some (.slice e)) (he : P.underlying e = some (.int .i32)) (hl : s.size ≤ 70368744177664) {ok okp : Nat → Prop} (hok : ∀ k, okp k → ok k) (hfresh : ok W.heap.size) (HB : Below base w0 W) (hbase : base ≤ W.heap.size)
    (h : ∀ v1 w1, Kd.S (Kd.int .i32) e w1 base ok v1 (rns s) → Below base w0 w1 → W.grownBy w1 none → (∃ b, v1.ownBlock = some b ∧ W.heap.size ≤ b) → wpList P ops Q rest (a.put o.dst v1) w1) : wpList P ops Q (o :: rest) a W :=
  Kd.R_runes base e hgd _hd src dst x ho s hx hs hdt he hl (ok := ok) (okp := okp) hok hfresh HB hbase (fun v1 w1 hr => h v1 w1 (Kd.S_bare hr))
theorem Kd.S_runes_step {P : Program} {ops : Array Oper} {o : Oper} {a : Act} {Q : Exit → Act → World → Prop} {Kc : Act → World → Prop} {w0 W : World} (base e : Nat) (hw : Region.wanted o (yielded ops a.tmps) = true) {N : Tmp} (_hd : o.dst = some N) (src dst : TypeId) (x : Operand) (ho : o.op = .convert src dst x) (s : ByteArray) (hx : a.eval x = .string s)
    (hs : P.underlying src = some .string) (hdt : P.underlying dst = some (.slice e)) (he : P.underlying e = some (.int .i32)) (hl : s.size ≤ 70368744177664) {ok okp : Nat → Prop} (hok : ∀ k, okp k → ok k) (hfresh : ok W.heap.size) (HB : Below base w0 W) (hbase : base ≤ W.heap.size)
    (h : ∀ v1 w1, Kd.S (Kd.int .i32) e w1 base ok v1 (rns s) → Below base w0 w1 → W.grownBy w1 none → (∃ b, v1.ownBlock = some b ∧ W.heap.size ≤ b) → Kc (a.put o.dst v1) w1) :
    if Region.wanted o (yielded ops a.tmps) = true then Oper.wp P o a W Kc Q else Kc (a.put o.dst undef) W :=
  Kd.R_runes_step base e hw _hd src dst x ho s hx hs hdt he hl (ok := ok) (okp := okp) hok hfresh HB hbase (fun v1 w1 hr => h v1 w1 (Kd.S_bare hr))
theorem rune_range (s : ByteArray) (pos : Nat) : 0 ≤ ((Utf8.decode s pos).1 : Int) ∧ ((Utf8.decode s pos).1 : Int) ≤ 2147483647 := ⟨by omega, by have := decode_le s pos; omega⟩
theorem wf_rune (s : ByteArray) (pos : Nat) : (Lit.int .i32 ((Utf8.decode s pos).1 : Int)).wf = true := by
  have a : IntKind.i32.min = -2147483648 := by decide
  have b : IntKind.i32.max = 2147483647 := by decide
  have := rune_range s pos
  simp only [Lit.wf, a, b]
  simp
  omega
def pentaglotref01_UTF8.l0 : Nat → ByteArray → Nat → Option Bool
  | 0, _, _ => none
  | k + 1, s, pos => if pos < s.size then (if ((Utf8.decode s pos).1 : Int) = 65533 then (if (s.size : Int) < (pos : Int) + 3 then some false else (if (s.extract pos (pos + 3)).toList = ([239, 191, 189] : List UInt8) then pentaglotref01_UTF8.l0 k s (pos + (Utf8.decode s pos).2) else some false)) else pentaglotref01_UTF8.l0 k s (pos + (Utf8.decode s pos).2)) else some true
def pentaglotref01_UTF8.f (k : Nat) (s : ByteArray) : Option Bool := if (s.size : Int) ≤ 1000000 then pentaglotref01_UTF8.l0 k s 0 else none
theorem pentaglotref01_UTF8.mono_l : ∀ k s pos, LeO (pentaglotref01_UTF8.l0 k s pos) (pentaglotref01_UTF8.l0 (k + 1) s pos)
  | 0, _, _ => fun r h => by simp [pentaglotref01_UTF8.l0] at h
  | k + 1, s, pos => by
    have ih := pentaglotref01_UTF8.mono_l k
    unfold pentaglotref01_UTF8.l0
    repeat' first
      | (with_reducible exact LeO.refl _)
      | (with_reducible exact ih _ _)
      | (with_reducible refine LeO.ite ?_ ?_)
theorem pentaglotref01_UTF8.mono : ∀ s k, LeO (pentaglotref01_UTF8.f k s) (pentaglotref01_UTF8.f (k + 1) s) := by
  intro s k
  have ih := pentaglotref01_UTF8.mono_l k
  unfold pentaglotref01_UTF8.f
  repeat' first
      | (with_reducible exact LeO.refl _)
      | (with_reducible exact ih _ _)
      | (with_reducible refine LeO.ite ?_ ?_)
theorem rnsFrom_step (s : ByteArray) (k pos : Nat) (h : pos < s.size) : rnsFrom s (k + 1) pos = ((Utf8.decode s pos).1 : Int) :: rnsFrom s k (pos + (Utf8.decode s pos).2) := by
  simp only [rnsFrom]
  rw [if_pos h]
theorem rnsFrom_end (s : ByteArray) (k pos : Nat) (h : ¬ pos < s.size) : rnsFrom s k pos = [] := by
  cases k with
  | zero => rfl
  | succ k => simp only [rnsFrom]; rw [if_neg h]
/-- More rounds than bytes left give the same runes. -/
theorem rnsFrom_more (s : ByteArray) : ∀ (k j pos : Nat), s.size ≤ pos + k → s.size ≤ pos + j → rnsFrom s k pos = rnsFrom s j pos
  | 0, j, pos, h, _ => by rw [rnsFrom_end s 0 pos (by omega), rnsFrom_end s j pos (by omega)]
  | k + 1, 0, pos, _, h => by rw [rnsFrom_end s _ pos (by omega), rnsFrom_end s 0 pos (by omega)]
  | k + 1, j + 1, pos, h, h2 => by
    by_cases c : pos < s.size
    · have := Lib.decode_width_pos s pos c
      rw [rnsFrom_step s k pos c, rnsFrom_step s j pos c, rnsFrom_more s k j _ (by omega) (by omega)]
    · rw [rnsFrom_end s _ pos c, rnsFrom_end s _ pos c]
/-- What is left of a string's runes from a place on: the ghost of a range over a string. -/
def Left (s : ByteArray) (k pos : Nat) (xs : List Int) : Prop := rnsFrom s k pos = xs ∧ s.size < pos + k
theorem left_start (s : ByteArray) : Left s (s.size + 1) 0 (rns s) := ⟨rnsFrom_more s _ _ 0 (by omega) (by omega), by omega⟩
theorem left_end {s : ByteArray} {k pos : Nat} {xs : List Int} (h : Left s k pos xs) (c : ¬ pos < s.size) : xs = [] := by rw [← h.1, rnsFrom_end s k pos c]
theorem left_next {s : ByteArray} {k pos : Nat} {xs : List Int} (h : Left s k pos xs) (c : pos < s.size) : ∃ k1 ys, k = k1 + 1 ∧ xs = ((Utf8.decode s pos).1 : Int) :: ys ∧ Left s k1 (pos + (Utf8.decode s pos).2) ys := by
  obtain ⟨h1, h2⟩ := h
  obtain ⟨k1, rfl⟩ : ∃ k1, k = k1 + 1 := ⟨k - 1, by omega⟩
  have := Lib.decode_width_pos s pos c
  rw [rnsFrom_step s k1 pos c] at h1
  exact ⟨k1, _, rfl, h1.symm, rfl, by omega⟩
theorem grown_iterAt (w : World) (k : Nat) (s : ByteArray) (pos : Nat) : w.grownBy (w.iterAt k s pos) (some k) :=
  ⟨rfl, rfl, rfl, by rw [Lib.iterAt_size]; exact Nat.le_refl _, fun i _ hr => Lib.iterAt_other w k i s pos (fun e => hr (by rw [e]))⟩
/-- A function value is stored as it is (the kit has this law of the other kinds). -/
@[go_sem] theorem run_store_func {P : Program} (w : World) (a : Addr) (f : Fn) (xs ys : Array Value) (m : Mode) : (store a (.func f xs ys) m).run P w = stored P w a (.func f xs ys) m := run_store P w a _ m rfl

end Go.Proofs.YtpgeimihmkampaaDoor.C
