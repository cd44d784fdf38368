/- Decimal numerals: the digits of a number, read back. -/
import Derived.Lib.ItoaNum
import Derived.Lib.AtoiAll
namespace Go.Proofs.Ytkegdgdkfbmabaa.Num
open Go
set_option linter.unusedVariables false
set_option linter.unusedSimpArgs false
def isDg (c : UInt8) : Bool := decide (48 ≤ c.toNat) && decide (c.toNat ≤ 57)
def decVal (acc : Nat) : List UInt8 → Nat
  | [] => acc
  | c :: l => decVal (acc * 10 + (c.toNat - 48)) l
theorem valOf_append (b : List UInt8) : ∀ (a : List UInt8) (acc : Nat), decVal acc (a ++ b) = decVal (decVal acc a) b
  | [], _ => rfl
  | c :: a, acc => valOf_append b a _
theorem valOf_ge : ∀ (l : List UInt8) (acc : Nat), acc ≤ decVal acc l
  | [], _ => Nat.le_refl _
  | c :: l, acc => Nat.le_trans (by omega) (valOf_ge l (acc * 10 + (c.toNat - 48)))
theorem digit_nat {d : Nat} (h : d < 10) : (UInt8.ofNat (48 + d)).toNat = 48 + d := by
  rw [UInt8.toNat_ofNat']; omega
theorem dec_digits (u : Nat) : ∀ c ∈ Lib.decDigits u, isDg c = true := by
  induction u using Nat.strongRecOn with
  | _ u ih =>
    have hd : ∀ d, d < 10 → isDg (UInt8.ofNat (48 + d)) = true := by
      intro d h
      unfold isDg; rw [digit_nat h]; simp; omega
    by_cases h : u < 10
    · rw [Lib.decDigits, dif_pos h]
      intro c hc
      rw [List.mem_singleton.1 hc]; exact hd u h
    · rw [Lib.decDigits, dif_neg h]
      intro c hc
      rcases List.mem_append.1 hc with hc | hc
      · exact ih (u / 10) (by omega) c hc
      · rw [List.mem_singleton.1 hc]; exact hd _ (by omega)
theorem dec_ne (u : Nat) : Lib.decDigits u ≠ [] := by
  by_cases h : u < 10
  · rw [Lib.decDigits, dif_pos h]; simp
  · rw [Lib.decDigits, dif_neg h]; simp
theorem dec_val (u : Nat) : decVal 0 (Lib.decDigits u) = u := by
  induction u using Nat.strongRecOn with
  | _ u ih =>
    by_cases h : u < 10
    · rw [Lib.decDigits, dif_pos h]
      show 0 * 10 + ((UInt8.ofNat (48 + u)).toNat - 48) = u
      rw [digit_nat h]; omega
    · rw [Lib.decDigits, dif_neg h, valOf_append, ih (u / 10) (by omega)]
      show u / 10 * 10 + ((UInt8.ofNat (48 + u % 10)).toNat - 48) = u
      rw [digit_nat (by omega)]; omega
theorem dec_head (u : Nat) (h0 : u ≠ 0) : ∃ c l, Lib.decDigits u = c :: l ∧ 49 ≤ c.toNat := by
  induction u using Nat.strongRecOn with
  | _ u ih =>
    by_cases h : u < 10
    · rw [Lib.decDigits, dif_pos h]
      exact ⟨_, _, rfl, by rw [digit_nat h]; omega⟩
    · obtain ⟨c, l, hc, hb⟩ := ih (u / 10) (by omega) (by omega)
      rw [Lib.decDigits, dif_neg h, hc]
      exact ⟨c, _, rfl, hb⟩
theorem dec_zero : Lib.decDigits 0 = [48] := by rw [Lib.decDigits, dif_pos (by decide)]; rfl
theorem dec_len (k : Nat) : ∀ u : Nat, u < 10 ^ (k + 1) → (Lib.decDigits u).length ≤ k + 1 := by
  induction k with
  | zero => intro u hu; rw [Lib.decDigits, dif_pos (by omega)]; exact Nat.le_refl _
  | succ k ih =>
    intro u hu
    by_cases h : u < 10
    · rw [Lib.decDigits, dif_pos h]; simp
    · rw [Lib.decDigits, dif_neg h, List.length_append]
      have := ih (u / 10) (by rw [Nat.pow_succ] at hu; omega)
      simp; omega
theorem isDg_iff {c : UInt8} : isDg c = true ↔ 48 ≤ c.toNat ∧ c.toNat ≤ 57 := by unfold isDg; simp
theorem dec_of_rev (r : List UInt8) : (∀ c ∈ r, isDg c = true) → r ≠ [] → (r.length = 1 ∨ ∃ c l, r.reverse = c :: l ∧ 49 ≤ c.toNat) → Lib.decDigits (decVal 0 r.reverse) = r.reverse := by
  induction r with
  | nil => intro _ h; exact absurd rfl h
  | cons c a ih =>
    intro hd _ hz
    have hc := isDg_iff.1 (hd c (List.mem_cons_self ..))
    rw [List.reverse_cons, valOf_append]
    show Lib.decDigits (decVal 0 a.reverse * 10 + (c.toNat - 48)) = _
    have hcc : UInt8.ofNat (48 + (c.toNat - 48)) = c := by rw [show 48 + (c.toNat - 48) = c.toNat by omega]; exact UInt8.ofNat_toNat
    cases a with
    | nil =>
      show Lib.decDigits (0 * 10 + (c.toNat - 48)) = [c]
      rw [Lib.decDigits, dif_pos (by omega), show 0 * 10 + (c.toNat - 48) = c.toNat - 48 by omega, hcc]
    | cons b a =>
      obtain ⟨x, l, hx, hb⟩ : ∃ x l, (b :: a).reverse = x :: l ∧ 49 ≤ x.toNat := by
        rcases hz with hz | ⟨x, l, hx, hb⟩
        · simp at hz
        · rw [List.reverse_cons] at hx
          cases hq : (b :: a).reverse with
          | nil => simp at hq
          | cons y m => rw [hq] at hx; simp at hx; exact ⟨y, m, rfl, hx.1 ▸ hb⟩
      have h1 := ih (fun d h => hd d (List.mem_cons_of_mem _ h)) (by simp) (.inr ⟨x, l, hx, hb⟩)
      have h2 : 1 ≤ decVal 0 (b :: a).reverse := by
        rw [hx]
        exact Nat.le_trans (by omega) (valOf_ge l (0 * 10 + (x.toNat - 48)))
      rw [Lib.decDigits, dif_neg (by omega), show (decVal 0 (b :: a).reverse * 10 + (c.toNat - 48)) / 10 = decVal 0 (b :: a).reverse by omega, show (decVal 0 (b :: a).reverse * 10 + (c.toNat - 48)) % 10 = c.toNat - 48 by omega, h1, hcc]
/-- A numeral without a needless nought is the numeral of its number. -/
theorem dec_of (l : List UInt8) (hd : ∀ c ∈ l, isDg c = true) (hn : l ≠ []) (hz : l.length = 1 ∨ ∃ c r, l = c :: r ∧ 49 ≤ c.toNat) : Lib.decDigits (decVal 0 l) = l := by
  have := dec_of_rev l.reverse (fun c h => hd c (List.mem_reverse.1 h)) (by simpa using hn) (by simpa using hz)
  simpa using this
theorem parse_ok : ∀ (l : List UInt8) (acc : Nat), (∀ c ∈ l, isDg c = true) → decVal acc l < 18446744073709551616 → Lib.parseUint10 acc l = .ok (decVal acc l)
  | [], _, _, _ => rfl
  | c :: l, acc, hd, hv => by
    have hc := isDg_iff.1 (hd c (List.mem_cons_self ..))
    have hg := valOf_ge l (acc * 10 + (c.toNat - 48))
    have hv' : decVal (acc * 10 + (c.toNat - 48)) l < 18446744073709551616 := hv
    unfold Lib.parseUint10
    rw [if_pos hc, if_neg (by omega), if_neg (by omega)]
    exact parse_ok l _ (fun d h => hd d (List.mem_cons_of_mem _ h)) hv'
theorem mag_dec (u : Nat) (h : u < 18446744073709551616) : Lib.parseMag (Lib.decDigits u) = .ok u := by
  unfold Lib.parseMag
  rw [if_neg (dec_ne u), parse_ok _ 0 (dec_digits u) (by rw [dec_val]; exact h), dec_val]
theorem atoi_itoa (v : Int) (h0 : -9223372036854775808 ≤ v) (h1 : v ≤ 9223372036854775807) : Lib.atoiAll (Lib.itoa v) = .ok v := by
  unfold Lib.itoa
  by_cases hn : v < 0
  · rw [if_pos hn]
    have e1 : (45 : UInt8).toNat = 45 := rfl
    simp only [Lib.atoiAll, e1]
    rw [if_pos (.inr trivial), mag_dec _ (by omega)]
    simp only [not_true, false_and, if_false, true_and, if_true]
    rw [if_neg (by omega)]
    congr 1; omega
  · rw [if_neg hn]
    obtain ⟨c, l, hc⟩ : ∃ c l, Lib.decDigits v.toNat = c :: l := by
      cases h : Lib.decDigits v.toNat with
      | nil => exact absurd h (dec_ne _)
      | cons c l => exact ⟨c, l, rfl⟩
    have hd := isDg_iff.1 (dec_digits v.toNat c (by rw [hc]; exact List.mem_cons_self ..))
    have hm := mag_dec v.toNat (by omega)
    rw [hc] at hm ⊢
    have n1 : ¬ (c.toNat = 43 ∨ c.toNat = 45) := by omega
    have n2 : ¬ c.toNat = 45 := by omega
    simp only [Lib.atoiAll]
    rw [if_neg n1, hm]
    simp only [n2, not_false_eq_true, true_and, false_and, if_false]
    rw [if_neg (by omega)]
    congr 1; omega
end Go.Proofs.Ytkegdgdkfbmabaa.Num
