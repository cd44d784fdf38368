/- '==' of two ends, of two pairs of ends. -/
import Derived.Laws.StructEq
import Derived.DeepKeys
import Derived.Test.YtkegdgdkfbmabaaQUsed
namespace Go.Proofs.Ytkegdgdkfbmabaa.X
open Go Go.RowKit Go.Maps Go.Proofs.YtkegdgdkfbmabaaW Go.Proofs.YtkegdgdkfbmabaaW.PrintWords Go.Proofs.YtkegdgdkfbmabaaW.PrintLast Go.Proofs.YtkegdgdkfbmabaaW.PrintMore
set_option linter.unusedVariables false
set_option linter.unusedSimpArgs false
theorem cellsEnd : Try.prog.cellsOf 59 = 2 := by kernel_rfl
theorem eqEndD (n : Nat) (a b c d : Int) (w : World) : (Op.equalIn (n + 2) 59 (.agg #[.int .i64 a, .int .i64 b]) (.agg #[.int .i64 c, .int .i64 d])).run Try.prog w = .ok (a == c && b == d) w := by
  have u3 := Try.underlying3
  have hS : Try.prog.underlying 59 = some (.struct (Try.prog.fieldsOf 59)) := by kernel_rfl
  have hp : Try.prog.stoodInHeld 59 = false := by kernel_rfl
  rw [show n + 2 = (n + 1) + 1 from rfl, run_equalIn_agg w (n + 1) 59 _ _ hS hp]
  simp only [Program.fieldsOf, Try.underlying59]
  go_simp
  by_cases h1 : a = c <;> by_cases h2 : b = d <;> simp [h1, h2]
@[go_sem high] theorem eqEnd (a b c d : Int) (w : World) : (Op.equalIn 10000 59 (.agg #[.int .i64 a, .int .i64 b]) (.agg #[.int .i64 c, .int .i64 d])).run Try.prog w = .ok (a == c && b == d) w := eqEndD 9998 a b c d w
@[go_sem] theorem eqEnds (a b c d a' b' c' d' : Int) (w : World) : (Op.equalIn 10000 62 (.agg #[.int .i64 a, .int .i64 b, .int .i64 c, .int .i64 d]) (.agg #[.int .i64 a', .int .i64 b', .int .i64 c', .int .i64 d'])).run Try.prog w = .ok ((a == a' && b == b') && (c == c' && d == d')) w := by
  obtain ⟨i, hi⟩ := info_of_underlying Try.underlying59
  rw [show (10000 : Nat) = 9999 + 1 from rfl, run_equalIn_array w 9999 _ _ Try.underlying62 hi]
  rw [cellsEnd]
  simp only [List.range_succ, List.range_zero, List.nil_append, List.cons_append, Op.eqItems]
  have h0 : ∀ x y z t : Int, (part 59 #[.int .i64 x, .int .i64 y, .int .i64 z, .int .i64 t] 0).run Try.prog w = .ok (.agg #[.int .i64 x, .int .i64 y]) w := by intro x y z t; kernel_rfl
  have h1 : ∀ x y z t : Int, (part 59 #[.int .i64 x, .int .i64 y, .int .i64 z, .int .i64 t] 2).run Try.prog w = .ok (.agg #[.int .i64 z, .int .i64 t]) w := by intro x y z t; kernel_rfl
  simp only [Nat.zero_mul, Nat.one_mul, Sem.run_bind, h0, h1, Result.andThen_ok, eqEndD 9997]
  by_cases g1 : (a == a' && b == b') = true <;> by_cases g2 : (c == c' && d == d') = true <;> simp [g1, g2, h0, h1, eqEndD 9997]
@[go_sem] theorem endsAt0 (a b c d : Int) (w : World) : (Instr.index 62 (.agg #[.int .i64 a, .int .i64 b, .int .i64 c, .int .i64 d]) (.int .i64 0)).run Try.prog w = .ok (.agg #[.int .i64 a, .int .i64 b]) w := by kernel_rfl
@[go_sem] theorem endsAt1 (a b c d : Int) (w : World) : (Instr.index 62 (.agg #[.int .i64 a, .int .i64 b, .int .i64 c, .int .i64 d]) (.int .i64 1)).run Try.prog w = .ok (.agg #[.int .i64 c, .int .i64 d]) w := by kernel_rfl
end Go.Proofs.Ytkegdgdkfbmabaa.X
