/- The decimal representation of every number up to the limit denotes it, and of no greater one. -/
import Derived.Test.YtnmbljpifadipaaDoorQLDecAll
import Derived.Test.YtnmbljpifadipaaDoorQLNum
import Derived.Test.YtnmbljpifadipaaDoorX14
namespace Go.Proofs.YtnmbljpifadipaaDoor.Pure
set_option linter.unusedVariables false
open Go.RowKit Go.Proofs.YtnmbljpifadipaaDoor.X Go.Proofs.YtnmbljpifadipaaDoorW.PrintWords Go.Proofs.YtnmbljpifadipaaDoorW.PrintLast
theorem shr_range (x y : Int) (h0 : -9223372036854775808 ≤ x) (h1 : x ≤ 9223372036854775807) : -9223372036854775808 ≤ shr .i64 x y ∧ shr .i64 x y ≤ 9223372036854775807 := by
  unfold shr
  generalize min y.toNat IntKind.i64.bits = n
  have hp : (1 : Int) ≤ 2 ^ n := by
    have : (0 : Int) < 2 ^ n := Int.pow_pos (by decide)
    omega
  have ha := Int.ediv_mul_le x (b := 2 ^ n) (by omega)
  have hb := Int.lt_ediv_add_one_mul_self x (b := 2 ^ n) (by omega)
  constructor
  · apply Int.le_ediv_of_mul_le (by omega)
    have h2 : (9223372036854775808 : Int) * 1 ≤ 9223372036854775808 * 2 ^ n := Int.mul_le_mul_of_nonneg_left hp (by decide)
    rw [Int.neg_mul]
    omega
  · apply Int.le_of_lt_add_one
    apply Int.ediv_lt_of_lt_mul (by omega)
    have : (9223372036854775807 + 1 : Int) * 1 ≤ (9223372036854775807 + 1) * 2 ^ n := Int.mul_le_mul_of_nonneg_left hp (by decide)
    omega
theorem WordsNumberRoundTrip : railplanlaw3_WordsNumberRoundTrip.Pure := by
  intro a b ha hb
  have ha' : -9223372036854775808 ≤ a ∧ a ≤ 9223372036854775807 := by simpa [Lit.wf, show IntKind.i64.min = -9223372036854775808 from rfl, show IntKind.i64.max = 9223372036854775807 from rfl] using ha
  have hb' : 0 ≤ b ∧ b ≤ 255 := by simpa [Lit.wf, show IntKind.u8.min = 0 from rfl, show IntKind.u8.max = 255 from rfl] using hb
  refine Ev.rounds ?_
  unfold railplanlaw3_WordsNumberRoundTrip.f
  obtain ⟨n0, n1⟩ := shr_range a (Int.tmod b 64) ha'.1 ha'.2
  generalize shr .i64 a (Int.tmod b 64) = n at n0 n1 ⊢
  refine Q.evp (by rw [Int.tmod_eq_emod_of_nonneg hb'.1]; omega) (Q.ev2 (Q.r_dec n n0 n1) ?_)
  have hsz := Q.itoa_len n n0 n1
  refine Q.ev1 (Q.w_number (Q.decB n) (by omega)) ?_
  rw [Q.decB_list]
  have key : ∀ (o : Bool), o = decide (n < -1099511627776 ∨ 1099511627776 < n) → Ev (fun k => railplanlaw3_WordsNumberRoundTrip.j0 k n (Q.numS (Lib.itoa n)).1 (Q.numS (Lib.itoa n)).2 o) true := by
    intro o ho
    refine Ev.step (fun k => by simp only [railplanlaw3_WordsNumberRoundTrip.j0]; rfl) ?_
    by_cases h : n < -1099511627776 ∨ 1099511627776 < n
    · rw [decide_eq_true h] at ho
      rw [Q.numS_big ⟨n0, n1⟩ h]
      exact Q.evp ho (Q.ev2 Q.awake (Q.evp rfl (Q.evn (by decide) (Q.evs rfl))))
    · rw [decide_eq_false h] at ho
      rw [Q.numS_itoa (by omega) (by omega)]
      exact Q.evn (by rw [ho]; decide) (Q.ev2 Q.awake (Q.evp rfl (Q.evp rfl (Q.evs (by simp)))))
  by_cases h : n > 1099511627776
  · exact Q.evp h (key true (by rw [decide_eq_true (.inr h)]))
  · refine Q.evn h (key _ ?_)
    rw [decide_eq_decide]; omega
end Go.Proofs.YtnmbljpifadipaaDoor.Pure
