/- The decimals of the numbers from -2000 to 2000: reckoned one by one. -/
import Derived.KernelRfl
import Derived.Lib.Index
import Derived.Test.YtnmbljpifadipaaDoorQBase
import Derived.Test.YtnmbljpifadipaaDoorX8
import Derived.Test.YtnmbljpifadipaaDoorQLaid
namespace Go.Proofs.YtnmbljpifadipaaDoor.Q
open Go.RowKit Go.Proofs.YtnmbljpifadipaaDoorW.PrintWords Go.Proofs.YtnmbljpifadipaaDoorW.PrintLast Go.Proofs.YtnmbljpifadipaaDoorW.PrintMore Go.Proofs.YtnmbljpifadipaaDoor.X

def dec (n : Int) : ByteArray := ⟨(Lib.itoa n).toArray⟩
def chk (n : Int) : Bool := (match railplanref1_Decimal.f 10 n with | some s => decide (s = dec n) | none => false) && ((match words_Number.f (dec n) with | some r => decide (r = (n, true)) | none => false) && ((dec n).data.toList.all (fun c => decide (c ≠ 46)) && decide ((dec n).size ≤ 5)))
theorem chk0 : ((List.range 200).all fun i => chk ((i : Int) - 2000)) = true := by kernel_rfl
theorem chk1 : ((List.range 200).all fun i => chk ((i : Int) - 1800)) = true := by kernel_rfl
theorem chk2 : ((List.range 200).all fun i => chk ((i : Int) - 1600)) = true := by kernel_rfl
theorem chk3 : ((List.range 200).all fun i => chk ((i : Int) - 1400)) = true := by kernel_rfl
theorem chk4 : ((List.range 200).all fun i => chk ((i : Int) - 1200)) = true := by kernel_rfl
theorem chk5 : ((List.range 200).all fun i => chk ((i : Int) - 1000)) = true := by kernel_rfl
theorem chk6 : ((List.range 200).all fun i => chk ((i : Int) - 800)) = true := by kernel_rfl
theorem chk7 : ((List.range 200).all fun i => chk ((i : Int) - 600)) = true := by kernel_rfl
theorem chk8 : ((List.range 200).all fun i => chk ((i : Int) - 400)) = true := by kernel_rfl
theorem chk9 : ((List.range 200).all fun i => chk ((i : Int) - 200)) = true := by kernel_rfl
theorem chk10 : ((List.range 200).all fun i => chk ((i : Int) + 0)) = true := by kernel_rfl
theorem chk11 : ((List.range 200).all fun i => chk ((i : Int) + 200)) = true := by kernel_rfl
theorem chk12 : ((List.range 200).all fun i => chk ((i : Int) + 400)) = true := by kernel_rfl
theorem chk13 : ((List.range 200).all fun i => chk ((i : Int) + 600)) = true := by kernel_rfl
theorem chk14 : ((List.range 200).all fun i => chk ((i : Int) + 800)) = true := by kernel_rfl
theorem chk15 : ((List.range 200).all fun i => chk ((i : Int) + 1000)) = true := by kernel_rfl
theorem chk16 : ((List.range 200).all fun i => chk ((i : Int) + 1200)) = true := by kernel_rfl
theorem chk17 : ((List.range 200).all fun i => chk ((i : Int) + 1400)) = true := by kernel_rfl
theorem chk18 : ((List.range 200).all fun i => chk ((i : Int) + 1600)) = true := by kernel_rfl
theorem chk19 : ((List.range 200).all fun i => chk ((i : Int) + 1800)) = true := by kernel_rfl
theorem chk20 : ((List.range 200).all fun i => chk ((i : Int) + 2000)) = true := by kernel_rfl
theorem chk_in {f : Nat → Int} (h : ((List.range 200).all fun i => chk (f i)) = true) (i : Nat) (hi : i < 200) (n : Int) (e : f i = n) : chk n = true := by
  have := List.all_eq_true.1 h i (List.mem_range.2 hi)
  rwa [e] at this
theorem chk_at (n : Int) (h0 : -2000 ≤ n) (h1 : n ≤ 2000) : chk n = true := by
  by_cases c0 : n < -1800
  · exact chk_in chk0 (n - (-2000)).toNat (by omega) n (by omega)
  by_cases c1 : n < -1600
  · exact chk_in chk1 (n - (-1800)).toNat (by omega) n (by omega)
  by_cases c2 : n < -1400
  · exact chk_in chk2 (n - (-1600)).toNat (by omega) n (by omega)
  by_cases c3 : n < -1200
  · exact chk_in chk3 (n - (-1400)).toNat (by omega) n (by omega)
  by_cases c4 : n < -1000
  · exact chk_in chk4 (n - (-1200)).toNat (by omega) n (by omega)
  by_cases c5 : n < -800
  · exact chk_in chk5 (n - (-1000)).toNat (by omega) n (by omega)
  by_cases c6 : n < -600
  · exact chk_in chk6 (n - (-800)).toNat (by omega) n (by omega)
  by_cases c7 : n < -400
  · exact chk_in chk7 (n - (-600)).toNat (by omega) n (by omega)
  by_cases c8 : n < -200
  · exact chk_in chk8 (n - (-400)).toNat (by omega) n (by omega)
  by_cases c9 : n < 0
  · exact chk_in chk9 (n - (-200)).toNat (by omega) n (by omega)
  by_cases c10 : n < 200
  · exact chk_in chk10 (n - (0)).toNat (by omega) n (by omega)
  by_cases c11 : n < 400
  · exact chk_in chk11 (n - (200)).toNat (by omega) n (by omega)
  by_cases c12 : n < 600
  · exact chk_in chk12 (n - (400)).toNat (by omega) n (by omega)
  by_cases c13 : n < 800
  · exact chk_in chk13 (n - (600)).toNat (by omega) n (by omega)
  by_cases c14 : n < 1000
  · exact chk_in chk14 (n - (800)).toNat (by omega) n (by omega)
  by_cases c15 : n < 1200
  · exact chk_in chk15 (n - (1000)).toNat (by omega) n (by omega)
  by_cases c16 : n < 1400
  · exact chk_in chk16 (n - (1200)).toNat (by omega) n (by omega)
  by_cases c17 : n < 1600
  · exact chk_in chk17 (n - (1400)).toNat (by omega) n (by omega)
  by_cases c18 : n < 1800
  · exact chk_in chk18 (n - (1600)).toNat (by omega) n (by omega)
  by_cases c19 : n < 2000
  · exact chk_in chk19 (n - (1800)).toNat (by omega) n (by omega)
  exact chk_in chk20 (n - (2000)).toNat (by omega) n (by omega)
theorem dec_facts (n : Int) (h0 : -2000 ≤ n) (h1 : n ≤ 2000) : railplanref1_Decimal.f 10 n = some (dec n) ∧ words_Number.f (dec n) = some (n, true) ∧ (∀ c ∈ (dec n).data.toList, c ≠ 46) ∧ (dec n).size ≤ 5 := by
  have h := chk_at n h0 h1
  unfold chk at h
  simp only [Bool.and_eq_true] at h
  obtain ⟨a, b, c, d⟩ := h
  refine ⟨?_, ?_, fun x hx => of_decide_eq_true (List.all_eq_true.1 c x hx), of_decide_eq_true d⟩
  · cases hs : railplanref1_Decimal.f 10 n with
    | none => rw [hs] at a; cases a
    | some s => rw [hs] at a; rw [of_decide_eq_true a]
  · cases hs : words_Number.f (dec n) with
    | none => rw [hs] at b; cases b
    | some s => rw [hs] at b; rw [of_decide_eq_true b]
theorem cut_dots (a b : List UInt8) (ha : ∀ c ∈ a, c ≠ 46) : Lib.index (a ++ [46, 46] ++ b) [46, 46] = a.length := by
  refine Lib.index_first (by simp) ?_ ?_
  · unfold Lib.occAt
    rw [List.append_assoc, List.drop_left]
    rfl
  · intro j hj
    unfold Lib.occAt
    rw [List.append_assoc, List.drop_append_of_le_length (by omega)]
    obtain ⟨x, t, hx⟩ : ∃ x t, a.drop j = x :: t := by
      cases h : a.drop j with
      | nil => rw [List.drop_eq_nil_iff] at h; omega
      | cons x t => exact ⟨x, t, rfl⟩
    have hm : x ∈ a := List.mem_of_mem_drop (i := j) (by rw [hx]; exact List.mem_cons_self)
    rw [hx]
    have := ha x hm
    simp [List.isPrefixOf, Ne.symm this]
end Go.Proofs.YtnmbljpifadipaaDoor.Q
