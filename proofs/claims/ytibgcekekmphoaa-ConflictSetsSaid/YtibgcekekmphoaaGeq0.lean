/- '==' of two arrays of two whole numbers, as one Bool. -/
import Derived.Test.YtibgcekekmphoaaP340
import Derived.ChangeKeysEq
namespace Go.Proofs.Ytibgcekekmphoaa.P34
open Go.RowKit Go.Proofs.YtibgcekekmphoaaW.PrintWords Go.Proofs.YtibgcekekmphoaaW.PrintLast Go.Proofs.YtibgcekekmphoaaW.PrintMore
set_option linter.unusedVariables false
set_option linter.unusedSimpArgs false

theorem eqA63 (d : Nat) (w : World) (x0 y0 : Int) (x1 y1 : Int) :
    (Op.equalIn (d + 2) 63 (.agg #[.int .i64 x0, .int .i64 x1]) (.agg #[.int .i64 y0, .int .i64 y1])).run Try.prog w = .ok (x0 == y0 && (x1 == y1)) w := by
  cases hi : Try.prog.info? 3 with
  | none => have := info3; rw [hi] at this; cases this
  | some i =>
    have hc : Try.prog.cellsOf 3 = 1 := by kernel_rfl
    rw [run_equalIn_array w (d + 1) _ _ Try.underlying63 hi, hc]
    have a0 : (part 3 #[Value.int .i64 x0, .int .i64 x1] (0 * 1)).run Try.prog w = .ok (.int .i64 x0) w := by go_simp
    have b0 : (part 3 #[Value.int .i64 y0, .int .i64 y1] (0 * 1)).run Try.prog w = .ok (.int .i64 y0) w := by go_simp
    have a1 : (part 3 #[Value.int .i64 x0, .int .i64 x1] (1 * 1)).run Try.prog w = .ok (.int .i64 x1) w := by go_simp
    have b1 : (part 3 #[Value.int .i64 y0, .int .i64 y1] (1 * 1)).run Try.prog w = .ok (.int .i64 y1) w := by go_simp
    have e0 : (Op.equalIn (d + 1) 3 (.int .i64 x0) (.int .i64 y0)).run Try.prog w = .ok (x0 == y0) w := by go_simp
    have e1 : (Op.equalIn (d + 1) 3 (.int .i64 x1) (.int .i64 y1)).run Try.prog w = .ok (x1 == y1) w := by go_simp
    simp only [Op.eqItems, show List.range 2 = [0, 1] from rfl, Sem.run_bind, a0, b0, e0, Result.andThen_ok]
    cases x0 == y0 with
    | false => simp
    | true =>
      simp only [Bool.not_true, Bool.false_eq_true, if_false, Sem.run_bind, a1, b1, e1, Result.andThen_ok]
      cases x1 == y1 <;> simp
end Go.Proofs.Ytibgcekekmphoaa.P34
