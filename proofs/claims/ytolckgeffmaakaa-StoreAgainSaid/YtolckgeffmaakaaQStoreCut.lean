/- The plain law of the store: records that are cut off. -/
import Derived.Test.YtolckgeffmaakaaQBase
import Derived.Test.YtolckgeffmaakaaQStore1
import Derived.Test.YtolckgeffmaakaaQStore2
import Derived.Test.YtolckgeffmaakaaQStore3
import Derived.Test.YtolckgeffmaakaaQStore4
import Derived.Test.YtolckgeffmaakaaX0
namespace Go.Proofs.Ytolckgeffmaakaa.Q
open Go.RowKit Go.Proofs.YtolckgeffmaakaaW.PrintWords Go.Proofs.YtolckgeffmaakaaW.PrintLast Go.Proofs.YtolckgeffmaakaaW.PrintMore Go.Proofs.Ytolckgeffmaakaa.X

theorem small_last {L : List S23} (h : small L) : 0 ≤ (if L.length = 0 then 0 else lastN L) ∧ (if L.length = 0 then 0 else lastN L) ≤ 17 ∧ ∀ v, (if L.length = 0 then 0 else lastN L) < v → okN L v = true := by
  by_cases h0 : L.length = 0
  · rw [if_pos h0]; exact ⟨by omega, by omega, fun v _ => by simp [okN, h0]⟩
  · rw [if_neg h0]
    rcases List.eq_nil_or_concat L with rfl | ⟨m, x, rfl⟩
    · simp at h0
    · rw [List.concat_eq_append] at h ⊢
      rw [lastN_snoc]
      have h1 := h.1.1 x (by simp); have h2 := h.2.2 x (by simp); unfold ok1 at h1
      exact ⟨by omega, by omega, fun v hv => by unfold okN; rw [lastN_snoc]; simp [hv]⟩
theorem bigfile (L : List S23) (h : small L) (n : Int) (t : ByteArray) (h1 : 1 ≤ n) (h2 : n ≤ 1000) (ho : okN L n = true) :
    app (cat L) n t = if t.size > 65536 then (⟨#[]⟩, 7) else (cat (L ++ [⟨n, t⟩]), 0) := by
  have hz := small_size h
  have := app_cat (L := L) (n := n) (t := t) h.1 (by have := h.2.1; omega) (by omega)
  rw [this, if_neg (by omega)]
  split
  · rfl
  · rw [if_neg (by rw [ho]; decide)]
/-- A record that is cut off is no record. -/
theorem rd1_cut {v : Int} {t : ByteArray} (n : Nat) (h : n < 16 + t.size) (ht : t.size ≤ 65536) : rd1 ((rec v t).extract 0 n) = none := by
  have hz := rec_size v t
  have he : ((rec v t).extract 0 n).size = n := by rw [ByteArray.size_extract]; omega
  by_cases h16 : n < 16
  · unfold rd1; rw [if_pos (by omega)]
  · have e8 : val4 ((rec v t).extract 0 n) 8 = (t.size : Int) := by
      have := rec_val8 v t ⟨#[]⟩ ht
      rw [app_empty] at this
      rw [← this]; unfold val4
      have b : ∀ i, i < n → bt ((rec v t).extract 0 n) (i : Int) = bt (rec v t) (i : Int) := fun i hi => by
        have := bt_extract (s := rec v t) (a := 0) (b := n) (i := i) (by omega); rwa [Nat.zero_add] at this
      rw [b 8 (by omega), b (8 + 1) (by omega), b (8 + 2) (by omega), b (8 + 3) (by omega)]
    rw [rd1_a (by omega) (.inr (by omega))]
theorem cat_snoc (L : List S23) (n : Int) (t : ByteArray) : cat (L ++ [⟨n, t⟩]) = cat L ++ rec n t := by
  rw [cat_append]; show cat L ++ (rec n t ++ ⟨#[]⟩) = _; rw [app_empty]
theorem cut_ext (a b : ByteArray) (k : Nat) : (a ++ b).extract 0 (a.size + k) = a ++ b.extract 0 k := by
  apply ba_ext
  rw [ba_extract, ba_append, ba_append, ba_extract, List.drop_zero, List.drop_zero, Nat.sub_zero, Nat.sub_zero, ← ba_size, List.take_length_add_append]

end Go.Proofs.Ytolckgeffmaakaa.Q
