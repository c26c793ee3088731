-- WRITTEN BY mkprint.py, a program of this session, over the kit's print of the given program. Not trusted: Lean checks it.
import Derived.Test.YtknbgpgoljfkjaaDoorProg
import Derived.Below
import Derived.Deep.Draws
import Derived.Deep.AppendLies
import Derived.Maps.AppendAt
import Derived.OwnWalk
import Derived.Laws.BytesArg
import Derived.Laws.MakeOwn
import Derived.Laws.OwnMore
import Derived.Deep.OwnRows
import Derived.Tactics
import Derived.Lib.ConvBytes
import Derived.Laws.Slices
import Derived.WalkKit
import Derived.KernelRfl
import Derived.RowKit3
import Derived.Deep.LoopGhost
import Derived.Deep.QuietTactic
import Derived.BigQuiet
import Derived.WideLaws
import Derived.Deep.DeepCutAuto
import Derived.Deep.CutBlock
import Derived.Deep.RegionHeld3
import Derived.Laws.Rows
import Derived.Lib.AppendStr
import Derived.ArgAppend
import Derived.Laws.IdiomCopy
import Derived.OrdersHeld
import Derived.Laws.BitsLemmas
import Derived.RowKit
import Derived.Test.YtknbgpgoljfkjaaDoorWWords
import Derived.Test.YtknbgpgoljfkjaaDoorWLast
import Derived.Test.YtknbgpgoljfkjaaDoorWTab
import Derived.Test.YtknbgpgoljfkjaaDoorWFour
import Derived.Test.YtknbgpgoljfkjaaDoorWQPut
import Derived.Test.YtknbgpgoljfkjaaDoorWApart
import Derived.Test.YtknbgpgoljfkjaaDoorWArr
import Derived.Test.YtknbgpgoljfkjaaDoorWZeros
import Derived.Test.YtknbgpgoljfkjaaDoorWFoot
import Derived.Test.YtknbgpgoljfkjaaDoorWKept
import Derived.Test.YtknbgpgoljfkjaaDoorWShare
import Derived.Test.YtknbgpgoljfkjaaDoorWN
import Derived.Test.YtknbgpgoljfkjaaDoorWFootNe
import Derived.Test.YtknbgpgoljfkjaaDoorWAt
import Derived.Test.YtknbgpgoljfkjaaDoorWEqStruct
import Derived.Test.YtknbgpgoljfkjaaDoorWRepsOne
import Derived.Test.YtknbgpgoljfkjaaDoorWInv
import Derived.Test.YtknbgpgoljfkjaaDoorWInvWords
import Derived.Test.YtknbgpgoljfkjaaDoorWGuard
import Derived.Test.YtknbgpgoljfkjaaDoorWNEv
import Derived.Test.YtknbgpgoljfkjaaDoorWMore
namespace Go.Proofs.YtknbgpgoljfkjaaDoor.C
open Go.RowKit Go.Proofs.YtknbgpgoljfkjaaDoorW.PrintWords Go.Proofs.YtknbgpgoljfkjaaDoorW.PrintLast Go.Proofs.YtknbgpgoljfkjaaDoorW.PrintMore
attribute [local go_sem] max2_int min2_int max_two min_two max_three min_three max_four min_four   -- for this text's walks alone
set_option linter.unusedVariables false
set_option linter.unusedSimpArgs false



def errW : Option Int → Value
  | none => .nilIface
  | some c => .iface 0 (.int .i64 c)
theorem errW_none : errW none = .nilIface := rfl
theorem errW_some (c : Int) : errW (some c) = .iface 0 (.int .i64 c) := rfl

-- the values' own types


/-- A store leaves a cell where it is: so that a read behind several stores is told without searching deep. -/
@[go_sem] theorem cell_set_isSome (w : World) (a b : Addr) (v : Value) : ((w.setCell a v).cell? b).isSome = (w.cell? b).isSome := by
  cases h : w.cell? b with
  | some u =>
    obtain ⟨v', e⟩ := cell?_setCell_some (p := a) (x := v) h
    rw [e]; rfl
  | none =>
    by_cases e : a = b
    · subst e
      cases h2 : (w.setCell a v).cell? a with
      | none => rfl
      | some u =>
        exfalso
        revert h h2
        simp only [World.setCell, World.cell?, Array.getElem?_modify, if_true]
        cases w.heap[a.block]? with
        | none => simp
        | some x =>
          cases x with
          | cells cs t fr =>
            simp only [Option.map_some]
            cases hs : a.spot.isSome
            · simp only [Bool.false_eq_true, if_false, Array.setIfInBounds]
              split
              · rename_i hlt
                intro h1
                have := Array.getElem?_eq_none_iff.1 h1
                omega
              · intro h1 h2
                rw [h1] at h2
                cases h2
            · simp
          | map es c => simp
          | _ => simp
    · rw [World.cell?_setCell_other w a b v e, h]

/-- What the table 'clock.periods' holds, where the call may read it. -/
structure Glob (w : World) : Prop where
  c1 : w.cell? ⟨0, 1, none⟩ = some (.int .i64 1)
  c2 : w.cell? ⟨0, 2, none⟩ = some (.int .i64 2)
  c3 : w.cell? ⟨0, 3, none⟩ = some (.int .i64 6)
theorem Glob.below {w w1 : World} (h : Glob w) (hb : Below w.heap.size w w1) : Glob w1 :=
  ⟨pw_cell_below hb h.c1, pw_cell_below hb h.c2, pw_cell_below hb h.c3⟩

end Go.Proofs.YtknbgpgoljfkjaaDoor.C
