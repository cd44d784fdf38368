/- Two numbers with two dots between them are a range just where they are in order. -/
import Derived.Lib.IndexMore
import Derived.Test.YtnmbljpifadipaaDoorQLDec
import Derived.Test.YtnmbljpifadipaaDoorQLNames
import Derived.Test.YtnmbljpifadipaaDoorX8
import Derived.Test.YtnmbljpifadipaaDoorX10
import Derived.Test.YtnmbljpifadipaaDoorX19
import Derived.Test.YtnmbljpifadipaaDoorQLaid
namespace Go.Proofs.YtnmbljpifadipaaDoor.Pure
set_option linter.unusedVariables false
open Go.RowKit Go.Proofs.YtnmbljpifadipaaDoor.X Go.Proofs.YtnmbljpifadipaaDoorW.PrintWords Go.Proofs.YtnmbljpifadipaaDoorW.PrintLast
theorem pick (a : Int) (h0 : -9223372036854775808 ≤ a) (h1 : a ≤ 9223372036854775807) : ∃ t : Int, railplankeep_Pick.f a 4001 = some t ∧ 0 ≤ t ∧ t < 4001 := by
  have e : IntKind.u64.wrap (4001 : Int) = 4001 := by decide
  have hw : 0 ≤ IntKind.u64.wrap a := by rw [IntKind.wrap_u64]; omega
  unfold railplankeep_Pick.f
  rw [e, if_neg (by decide), Int.tmod_eq_emod_of_nonneg hw, Q.w64 (by omega) (by omega)]
  exact ⟨_, rfl, by omega, by omega⟩
theorem range_c (a b : Int) (a0 : -2000 ≤ a) (a1 : a ≤ 2000) (b0 : -2000 ≤ b) (b1 : b ≤ 2000) :
    words_Range.f ((Q.dec a ++ (⟨#[46, 46]⟩ : ByteArray)) ++ Q.dec b) = some (if a > b then (0, 0, false) else (a, b, true)) := by
  obtain ⟨_, na, da, sa⟩ := Q.dec_facts a a0 a1
  obtain ⟨_, nb, _, sb⟩ := Q.dec_facts b b0 b1
  have hd : ((Q.dec a ++ (⟨#[46, 46]⟩ : ByteArray)) ++ Q.dec b).data.toList = (Q.dec a).data.toList ++ [46, 46] ++ (Q.dec b).data.toList := by rw [Q.ba_append, Q.ba_append]
  have hc : cutS ((Q.dec a ++ (⟨#[46, 46]⟩ : ByteArray)) ++ Q.dec b) ⟨#[46, 46]⟩ = (Q.dec a, Q.dec b, true) := by
    unfold cutS Lib.cut
    rw [hd, show (⟨#[46, 46]⟩ : ByteArray).data.toList = [46, 46] from rfl, Q.cut_dots _ _ da, if_pos (by omega)]
    simp only [Int.toNat_natCast]
    have h5 : ∀ A B : List UInt8, List.drop (A.length + ([46, 46] : List UInt8).length) (A ++ ([46, 46] ++ B)) = B := fun A B => by rw [← List.append_assoc, ← List.length_append, List.drop_left]
    rw [List.append_assoc, List.take_left, h5]
  unfold words_Range.f
  rw [if_pos (by rw [ByteArray.size_append, ByteArray.size_append]; have : (⟨#[46, 46]⟩ : ByteArray).size = 2 := rfl; omega), hc]
  simp only [na, nb, Option.bind_some]
  rw [if_neg (by decide), if_neg (by decide), if_neg (by decide)]
  split <;> rfl
theorem dec_ev (a : Int) (a0 : -2000 ≤ a) (a1 : a ≤ 2000) : Ev (fun k => railplanref1_Decimal.f k a) (Q.dec a) :=
  Ev.of (fun k => railplanref1_Decimal.mono _ k) (Q.dec_facts a a0 a1).1
theorem WordsRanges : railplanlaw3_WordsRanges.Pure := by
  intro a b ha hb
  have ha' : -9223372036854775808 ≤ a ∧ a ≤ 9223372036854775807 := by simpa [Lit.wf, show IntKind.i64.min = -9223372036854775808 from rfl, show IntKind.i64.max = 9223372036854775807 from rfl] using ha
  have hb' : -9223372036854775808 ≤ b ∧ b ≤ 9223372036854775807 := by simpa [Lit.wf, show IntKind.i64.min = -9223372036854775808 from rfl, show IntKind.i64.max = 9223372036854775807 from rfl] using hb
  obtain ⟨x, hx, x0, x1⟩ := pick a ha'.1 ha'.2
  obtain ⟨y, hy, y0, y1⟩ := pick b hb'.1 hb'.2
  refine Ev.rounds ?_
  unfold railplanlaw3_WordsRanges.f
  refine Q.ev1 hx (Q.ev1 hy ?_)
  rw [Q.w64 (x := x - 2000) (by omega) (by omega), Q.w64 (x := y - 2000) (by omega) (by omega)]
  have sx := (Q.dec_facts (x - 2000) (by omega) (by omega)).2.2.2
  have sy := (Q.dec_facts (y - 2000) (by omega) (by omega)).2.2.2
  refine Q.ev2 (dec_ev _ (by omega) (by omega)) (Q.evp (by omega) (Q.ev2 (dec_ev _ (by omega) (by omega)) (Q.evp (by omega) ?_)))
  refine Q.ev1 (range_c _ _ (by omega) (by omega) (by omega) (by omega)) ?_
  by_cases c : x - 2000 > y - 2000
  · rw [if_pos c]
    exact Q.evp c (Q.ev2 Q.awake (Q.evp rfl (Q.evn (by decide) (Q.evp rfl (Q.evs (by decide))))))
  · rw [if_neg c]
    exact Q.evn c (Q.ev2 Q.awake (Q.evp rfl (Q.evp rfl (Q.evp rfl (Q.evs (by simp))))))
end Go.Proofs.YtnmbljpifadipaaDoor.Pure
