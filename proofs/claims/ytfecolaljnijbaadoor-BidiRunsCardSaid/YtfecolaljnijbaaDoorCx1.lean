-- WRITTEN BY mkprint.py, a program of this session, over the kit's print of the given program. Not trusted: Lean checks it.
import Derived.Test.YtfecolaljnijbaaDoorCx0
namespace Go.Proofs.YtfecolaljnijbaaDoor.C
open Go.RowKit Go.Proofs.YtfecolaljnijbaaDoorW.PrintWords Go.Proofs.YtfecolaljnijbaaDoorW.PrintLast Go.Proofs.YtfecolaljnijbaaDoorW.PrintMore
attribute [local go_sem] max2_int min2_int max_two min_two max_three min_three max_four min_four   -- for this text's walks alone
set_option linter.unusedVariables false
set_option linter.unusedSimpArgs false

theorem eqA38 (d : Nat) (w : World) (x0 y0 : Int) (x1 y1 : Int) :
    (Op.equalIn (d + 2) 38 (.agg #[.int .i64 x0, .int .i64 x1]) (.agg #[.int .i64 y0, .int .i64 y1])).run Tryd.prog w = .ok (x0 == y0 && (x1 == y1)) w := by
  have h0 := run_equalIn_int (P := Tryd.prog) w d 3 .i64 .i64 x0 y0 Tryd.underlying3
  have h1 := run_equalIn_int (P := Tryd.prog) w d 3 .i64 .i64 x1 y1 Tryd.underlying3
  rw [Op.equalIn]
  generalize Op.equalIn (d + 1) = F at *
  simp only [run_underlying Tryd.underlying38, Sem.run_bind]
  generalize ha : (x0 == y0) = a at *
  generalize hb : (x1 == y1) = b at *
  cases a <;> cases b <;> (go_simp; simp [List.range', Sem.run_bind, Result.andThen, h0]; (try go_simp); (try simp [Sem.run_bind, Result.andThen, h1]))
end Go.Proofs.YtfecolaljnijbaaDoor.C
